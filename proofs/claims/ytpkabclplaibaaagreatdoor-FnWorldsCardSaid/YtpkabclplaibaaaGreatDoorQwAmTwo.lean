/- No condition. -/
import Derived.Test.YtpkabclplaibaaaGreatDoorQwAmCall
set_option linter.all false
namespace Go.Am
open Go.RowKit
variable [ei]
section
variable {P:Program} {w0:dY} {w:World} {G:Gh} {st:St} {a:Act} {U:Type} {k:St->Option U} {r:U} {K:Act->World->Prop} {Q:Exit->Act->World->Prop} {o:Oper}
def Jo {f:FuncId}(c:Xj P f){args:Array Operand}{ts:Array TypeId}(d:o.op=.call {callee:=.value (.func f),args:=args,argTypes:=ts}) :
  (execOp a.eval o).run P w=.ok (.enter f (args.map a.eval)) w:=by
 obtain⟨fn,g,h,b⟩:=c;unfold execOp;rw[d]
 have i : ¬ fn.name = "runtime.NumGoroutine" := by simpa using h
 have j:¬fn.body=none:=by intro e;rw[e]at b;cases b
 simp[resolve,Act.eval,Deferred.ofValue,invoke,callFunc,g,i,j]
def Fz:∀(l:List AC) (st:St),fW st (st.freeze l)
 |[],st=>.refl st|c::l,st=>(ra st c).trans (Fz l (st.di c))
def ZI {i:Gh}{l:List AC}(y:Inv w0 i (st.freeze l) a w){nf:Bool}(z:nf=true->oj st l=true)(A:nf=true->b5 l=true) :
  ∀e t c v xs,c∈l->bo i w (st.freeze l).bx (st.freeze l).bl c v->cn (st.freeze l) e t c=some xs->Rd w (RO i nf) (.sl e t) xs [v]:=by
 intro e t c v xs d B C;refine jv y B C (fun id len b j h=>?_) (fun f e u D j=>?_)
 .subst j;have E:b.w=false:=by
   rcases(Fz l st).bl id with p|⟨q,p,s⟩
   .have:=Jl l st id len b d (p.symm.trans h);rw[h]at this;have:=eh (eh this);rw[this]
   .rw[h]at s;have:=eh (eh s);rw[this]
  refine⟨fun g m=>m.Ji fun n=>?_,fun x=>by rw[E]at x;cases x⟩;obtain⟨q,F,H⟩:=aj0 (z n) id len d;have:=Jl l st id len q d (dm F);rw[h]at this;cases this;exact H
 .subst j;exact fun g m=>m.Ji fun n=>Oj (A n) f e u D d
def abA {cp:St}(h:cp.tm=st.tm)(x:Operand):cp.dB x=st.dB x:=by
 have:cp.ev x=st.ev x:=by
  cases x with
  |tmp t =>
   show cp.get t=st.get t;unfold St.get;rw[h]
  |_=>rfl
 unfold St.dB;rw[this]
def aBC {cp:St}(h:fW st cp)(p:Ty×Bool)(o:Operand):im1 cp p o=im1 st p o:=by
 unfold im1 imV;rw[abA h.tm];split
 .rw[tG h]
 .rw[tG h]
 .rfl
def ago {cp:St}(h:fW st cp):∀(ps:List (Ty×Bool)) (os:List Operand),NL cp ps os=NL st ps os
 |[],[]=>rfl|[],_::_=>rfl|_::_,[]=>rfl|p::ps,o::os=>by
  simp only[NL];rw[aBC h];split
  .rw[ago h ps os]
  .rfl
def NQ {cp:St}(h:fW st cp):∀(os:List Operand),jI cp os=jI st os
 |[]=>rfl|o::os=>by simp only[jI];rw[abA h.tm,NQ h os]
def aBD (G:Gh)(bx:List (Nat×List AC))(bl:List (Nat×Option eF))(g:Nat):Key->Prop
 |.bx d=>(look bx d).isSome=true/\g=G.hb d|.bl id=>(look bl id).isSome=true/\(G.hv id).ownBlock=some g|.hid=>False
def Inv.aHH (h:Inv w0 G st a w){w':World}{f:Nat->Prop}(i:dX f w w')(hfr:∀g,f g->(G.own g).isSome=true)(C:∀g,f g->G.own g≠some .hid)
  {G2:Gh} {bx2:List (Nat×List AC)} {bl2:List (Nat×Option eF)} (hnw:G2.nw=G.nw) (cz:G2.ok=G.ok) (z:∀g,g<w.heap.size->¬f g->G2.own g=G.own g)
  (p:jL G st.bx st.bl G2 bx2 bl2)
  (D:WD G w G2 w'->∀d l,look bx2 d=some l->(look st.bx d=some l/\G2.hb d=G.hb d/\¬f (G.hb d))\/(∃cs e,w'.heap[G2.hb d]?=some (.cells cs e (0,0))/\G2.own (G2.hb d)=some (.bx d)/\bY (bo G2 w' bx2 bl2) l cs.toList))
  (E:∀id b,look bl2 id=some (some b)->(look st.bl id=some (some b)/\G2.hv id=G.hv id/\∀g,G.own g=some (.bl id)->¬f g)\/EB G2 w' id b)
  (bf:∀g k,G2.own g=some k->(w.heap.size<=g\/f g)->g<w'.heap.size/\aBD G2 bx2 bl2 g k) :
  Inv w0 G2 {st with bx:=bx2,bl:=bl2} a w'/\WD G w G2 w':=by
 have q:WD G w G2 w':=by
  refine⟨hnw,cz,i.size,fun b s j=>?_,fun b s j=>?_⟩
  .have x:¬f b:=fun u=>by have:=hfr b u;rw[j]at this;cases this
   exact⟨(z b s x).trans j,i.block b s x⟩
  .have x:¬f b:=fun u=>C b u j
   exact⟨(z b s x).trans j,i.block b s x⟩
 refine⟨⟨hnw.trans h.nw,cz.trans h.rok,?_,h.defers,h.size,h.sp.mono q p,h.Fy q,fun t v F=>(h.tm t v F).mono q p,?_,?_,?_⟩,q⟩
 .refine h.below.step i.os i.tape i.output i.size fun k y u=>i.block k (Ew y h.below.size) fun H=>?_
  obtain⟨key,A⟩:=fC.1 (hfr k H);rcases(h.own k key A).1 with h1|h1
  .omega
  .exact u h1
 .intro d l I;rcases D q d l I with ⟨h1,m,c⟩|h1
  .obtain⟨cs,e,L,B,M⟩:=h.bx d l h1;have hlt:=(h.own _ _ B).2.1;refine⟨cs,e,?_,?_,M.imp fun _ _=>bo.mono q p⟩
   .rw[m,i.block _ hlt c];exact L
   .rw[m,z _ hlt c];exact B
  .exact h1
 .intro id b s;rcases E id b s with ⟨h1,m,c⟩|h1
  .refine(h.bl id b h1).mono q m fun R g S j=>?_
   have hlt:=(h.own _ _ j).2.1;exact⟨(z g hlt (c g j)).trans j,i.block g hlt (c g j)⟩
  .exact h1
 .intro g k y;by_cases n:w.heap.size<=g\/f g
  .obtain⟨h1,m⟩:=bf g k y n;refine⟨?_,h1,by cases k with|bx d=>exact m|bl id=>exact m|hid=>exact m.elim⟩;rcases n with n|n
   .exact .inl (aU h.below.size n)
   .obtain⟨key,A⟩:=fC.1 (hfr g n);exact(h.own g key A).1
  .have hlt:g<w.heap.size:=by
    by_cases N:g<w.heap.size
    .exact N
    .exact absurd (.inl (by omega)) n
   have O:¬f g:=fun u=>n (.inr u)
   rw[z g hlt O]at y;obtain⟨h1,m,c⟩:=h.own g k y;refine⟨h1,Ew m i.size,?_⟩;cases k with
   |hid=>trivial|bx d=>exact⟨(p.bx d c.1).1,by rw[(p.bx d c.1).2];exact c.2⟩
   |bl id=>exact⟨(p.bl id c.1).1,by rw[(p.bl id c.1).2.1];exact c.2⟩
def NR (L:List (Nat×eF×Value))(g:Nat):Option Key:=(L.find? fun z=>z.2.2.ownBlock==some g).map fun z=>.bl z.1
def tH (L:List (Nat×eF×Value))(B:Option (Nat×Nat×List AC))(g:Nat):Option Key:=match B with
 |some (d,b,_)=>if g=b then some (.bx d) else NR L g|none=>NR L g
def Gh.back (G:Gh)(c:Nat)(own0 bH:Nat->Option Nat)(L:List (Nat×eF×Value))(B:Option (Nat×Nat×List AC)):Gh :=
 {nw:=G.nw,ok:=G.ok,
  hb:=fun x=>match B with|some (d,b,_)=>if x=d then b else G.hb x|none=>G.hb x,
  hv:=fun i=>match L.find? (·.1==i) with|some z=>z.2.2|none=>G.hv i,
  own:=fun g=>if g<c/\own0 g=none then G.own g else match bH g with|none=>none|some _=>tH L B g}
structure aj6 (w w':World) (G:Gh) (st:St) (own0 bH:Nat->Option Nat) (okE:Bool->Nat->Prop) (L:List (Nat×eF×Value)) (B:Option (Nat×Nat×List AC))
  (bx2:List (Nat×List AC)) (bl2:List (Nat×Option eF)):Prop where
 keeps:dX (fun g=>(own0 g).isSome=true) w w'
 pass:∀g j,own0 g=some j->(G.own g).isSome=true
 aGZ:∀g j,own0 g=some j->G.own g≠some .hid
 new:∀g j,bH g=some j->w.heap.size<=g\/(own0 g).isSome=true
 els:∀f g,okE f g->RO (G.back w.heap.size own0 bH L B) f g
 row:∀z∈L,z.2.1.w=true/\0<z.2.1.t.n/\(∃rows,w'.ownsRow 0 z.2.1.e z.2.1.t.n z.2.2 z.2.1.xs.length rows/\et w' (okE z.2.1.f) z.2.1.t rows z.2.1.xs)/\∀g,z.2.2.ownBlock=some g->(bH g).isSome=true
 inj:∀z∈L,∀z'∈L,∀g,z.2.2.ownBlock=some g->z'.2.2.ownBlock=some g->z=z'
 uniq:∀z∈L,∀z'∈L,z.1=z'.1->z=z'
 name:∀z∈L,look st.bl z.1=none\/(z.2.2=G.hv z.1/\∃b,look st.bl z.1=some (some b)/\b.t=z.2.1.t)
 bl:∀i b,look bl2 i=some (some b)->(∃v,(i,b,v)∈L)\/((∀z∈L,z.1≠i)/\look st.bl i=some (some b)/\∀g,G.own g=some (.bl i)->own0 g=none)
 bls:∀i,(look st.bl i).isSome=true->(look bl2 i).isSome=true
 blL:∀z∈L,(look bl2 z.1).isSome=true
 bx:∀d l,look bx2 d=some l->(∃g0,B=some (d,g0,l))\/((∀d' g l',B=some (d',g,l')->d'≠d)/\look st.bx d=some l/\own0 (G.hb d)=none)
 bxs:∀d,(look st.bx d).isSome=true->(look bx2 d).isSome=true
 bxB:∀d g l,B=some (d,g,l)->(look bx2 d).isSome=true/\(look st.bx d=none\/G.hb d=g)/\((bH g).isSome=true/\∀z∈L,z.2.2.ownBlock≠some g) /\
  ∃cs e f t x,w'.heap[g]?=some (.cells cs e (0,0))/\l=ex f t x/\Rd w' (okE f) t x cs.toList
def aj6.find {w w':World}{G:Gh}{st:St}{own0 bH:Nat->Option Nat}{okE:Bool->Nat->Prop}{L:List (Nat×eF×Value)}{B:Option (Nat×Nat×List AC)}
  {bx2:List (Nat×List AC)} {bl2:List (Nat×Option eF)} (h:aj6 w w' G st own0 bH okE L B bx2 bl2) {z:Nat×eF×Value} (b:z∈L) {g:Nat} (c:z.2.2.ownBlock=some g) :
  (G.back w.heap.size own0 bH L B).own g=some (.bl z.1):=by
 obtain⟨t,j⟩:=fC.1 ((h.row z b).2.2.2 g c);have m:NR L g=some (.bl z.1):=by
  unfold NR;cases e:L.find? fun z=>z.2.2.ownBlock==some g with
  |none =>
   have:=ajx.1 e z b;simp[c]at this
  |some y =>
   have n:=age e;have f:=XP e;have:=h.inj z b y f g c (by simpa using n);rw[<-this];rfl
 have p:¬(g<w.heap.size/\own0 g=none):=by
  rintro⟨n,f⟩;rcases h.new g _ j with i|i
  .omega
  .rw[f]at i;cases i
 unfold Gh.back;dsimp only;rw[ag p,j];dsimp only;unfold tH;split
 .rename_i d u l;split
  .rename_i q;subst q;obtain⟨_,_,⟨v,s⟩,_⟩:=h.bxB d g l rfl;exact absurd c (s z b)
  .exact m
 .exact m
def Inv.back (h:Inv w0 G st a w){w':World}{own0 bH:Nat->Option Nat}{okE:Bool->Nat->Prop}{L:List (Nat×eF×Value)}{B:Option (Nat×Nat×List AC)}
  {bx2:List (Nat×List AC)} {bl2:List (Nat×Option eF)} (j:aj6 w w' G st own0 bH okE L B bx2 bl2) :
  Inv w0 (G.back w.heap.size own0 bH L B) {st with bx:=bx2,bl:=bl2} a w'/\∀c v,sQ L c v->bo (G.back w.heap.size own0 bH L B) w' bx2 bl2 c v:=by
 have hvL:∀z∈L,(G.back w.heap.size own0 bH L B).hv z.1=z.2.2:=by
  intro z I;show(match L.find? (·.1==z.1) with|some z=>z.2.2|none=>G.hv z.1)=_;cases C:L.find? (·.1==z.1) with
  |none =>
   have:=ajx.1 C z I;simp at this
  |some y =>
   have h1:=age C;have D:=XP C;rw[j.uniq y D z I (by simpa using h1)]
 have qh:∀i,(∀z∈L,z.1≠i)->(G.back w.heap.size own0 bH L B).hv i=G.hv i:=by
  intro i M;show(match L.find? (·.1==i) with|some z=>z.2.2|none=>G.hv i)=_;cases C:L.find? (·.1==i) with
  |none=>rfl
  |some y =>
   have h1:=age C;exact absurd (by simpa using h1) (M y (XP C))
 have qi:∀d,(∀F g l,B=some (F,g,l)->F≠d)->(G.back w.heap.size own0 bH L B).hb d=G.hb d:=by
  intro d N;show(match B with|some (F,E,_)=>if d=F then E else G.hb d|none=>G.hb d)=_;cases B with
  |none=>rfl
  |some q =>
   obtain⟨F,g,l⟩:=q;have:=N F g l rfl;show(if d=F then g else G.hb d)=_;rw[ag fun e=>this e.symm]
 have qd:∀d g l,B=some (d,g,l)->(G.back w.heap.size own0 bH L B).hb d=g:=by intro d g l u;subst u;simp[Gh.back]
 have qo:jL G st.bx st.bl (G.back w.heap.size own0 bH L B) bx2 bl2:=by
  refine⟨fun d N=>⟨j.bxs d N,?_⟩,fun i M=>⟨j.bls i M,?_,fun qj qp=>?_⟩⟩
  .by_cases H:∃g l,B=some (d,g,l)
   .obtain⟨g,l,H⟩:=H;rw[qd d g l H];rcases(j.bxB d g l H).2.1 with h1|h1
    .rw[h1]at N;cases N
    .exact h1.symm
   .exact qi d fun F g l u qq=>H ⟨g,l,by rw[u,qq]⟩
  .by_cases H:∃z∈L,z.1=i
   .obtain⟨z,I,rfl⟩:=H;rw[hvL z I];rcases j.name z I with h1|⟨h1,_⟩
    .rw[h1]at M;cases M
    .exact h1
   .exact qh i fun z I qt=>H ⟨z,I,qt⟩
  .rcases j.bl i qj qp with ⟨v,W⟩|⟨_,h1,_⟩
   .rcases j.name _ W with h1|⟨_,b,D,m⟩
    .rw[h1]at M;cases M
    .exact⟨b,D,m⟩
   .exact⟨qj,h1,rfl⟩
 have qu:=h.aHH (G2:=G.back w.heap.size own0 bH L B) (bx2:=bx2) (bl2:=bl2) j.keeps (fun g p=>by
   obtain⟨O,qf⟩:=fC.1 p;exact j.pass g O qf) (fun g p=>by
   obtain⟨O,qf⟩:=fC.1 p;exact j.aGZ g O qf) rfl rfl (fun g p C=>by
   have:own0 g=none:=by
    cases R:own0 g with
    |none=>rfl|some O=>rw[R]at C;exact absurd rfl C
   simp[Gh.back,p,this]) qo (fun qC d l N=>by
   rcases j.bx d l N with ⟨E,p⟩|⟨h1,D,m⟩
   .refine .inr ?_;obtain⟨_,_,⟨qv,qk⟩,cs,e,f,t,x,qe,rfl,qw⟩:=j.bxB d E l p;obtain⟨O,S⟩:=fC.1 qv;refine⟨cs,e,by rw[qd d E _ p];exact qe,?_,TJ (gv (fun g p=>j.els f g p) qw)⟩;rw[qd d E _ p];have qg:¬(E<w.heap.size/\own0 E=none):=by
     rintro⟨qD,qx⟩;rcases j.new E O S with m|m
     .omega
     .rw[qx]at m;cases m
    subst p;unfold Gh.back;dsimp only;rw[ag qg,S];simp[tH]
   .exact .inl ⟨D,qi d h1,by rw[m];simp⟩) (fun i b X=>by
   rcases j.bl i b X with ⟨v,W⟩|⟨h1,D,m⟩
   .refine .inr ?_;obtain⟨qy,qz,⟨rows,S,qk⟩,qe⟩:=j.row _ W;have Y:=hvL _ W;refine⟨fun _=>⟨rows,?_,?_,?_⟩,fun ql=>?_,qz⟩
    .rw[Y];exact S
    .rw[Y];exact fun g p=>j.find W p
    .exact kY (fun g p=>j.els _ g p) qk
    .rw[show b.w=true from qy]at ql;cases ql
   .exact .inl ⟨D,qh i h1,fun g p=>by rw[m g p];simp⟩) (fun g key A qA=>by
   have qg:¬(g<w.heap.size/\own0 g=none):=by
    rintro⟨h1,D⟩;rcases qA with m|m
    .omega
    .rw[D]at m;cases m
   have qE:=A;unfold Gh.back at A;dsimp only at A;rw[ag qg]at A;cases R:bH g with
   |none=>rw[R]at A;cases A
   |some O =>
    rw[R]at A;dsimp only at A;have qm:NR L g=some key->g<w'.heap.size/\aBD (G.back w.heap.size own0 bH L B) bx2 bl2 g key:=by
     intro Z;unfold NR at Z;cases C:L.find? fun z=>z.2.2.ownBlock==some g with
     |none=>rw[C]at Z;cases Z
     |some y =>
      rw[C]at Z;cases Z;have h1:=age C;have D:=XP C;have m:y.2.2.ownBlock=some g:=by simpa using h1
      refine⟨?_,j.blL y D,by rw[hvL y D];exact m⟩;obtain⟨_,_,⟨rows,S,_⟩,_⟩:=j.row y D;rcases S.2 with ⟨u,_⟩|⟨qn,cap,cur,u,_,qB,_⟩
      .rw[u]at m;simp[Value.ownBlock]at m
      .rw[u]at m;have:qn=g:=by simpa [Value.ownBlock]using m
       subst this;exact(sC.1 qB).1
    unfold tH at A;split at A
    .rename_i d E l;by_cases u:g=E
     .rw[ak u]at A;cases A;obtain⟨h1,_,_,cs,e,f,t,x,qe,_⟩:=j.bxB d E l rfl;subst u;exact⟨(sC.1 qe).1,h1,(qd d g l rfl).symm⟩
     .rw[ag u]at A;exact qm A
    .exact qm A)
 refine⟨qu.1,fun c v T=>?_⟩;cases c with
 |own i len =>
  cases len with
  |some l=>exact T.elim
  |none =>
   obtain⟨b,X⟩:=T;have Y:=hvL _ X;refine⟨j.blL _ X,?_,Y.symm⟩;rw[show(G.back w.heap.size own0 bH L B).hv i=v from Y];obtain⟨_,_,⟨rows,R,_⟩,_⟩:=j.row _ X;rcases R.2 with ⟨u,_⟩|⟨qn,cap,cur,u,_⟩
   .exact⟨_,_,_,u⟩
   .exact⟨_,_,_,u⟩
 |int k n=>exact T|bool b=>exact T|str s=>exact T|_=>exact T.elim
def hx:List AC->List Nat
 |[]=>[]|.own id _::l=>id::hx l|_::l=>hx l
def azR {m:Nat}(i:m=2\/m=3){seen:List Nat}{id:Nat}{len:Option Int}{l:List AC}(h:fU st m seen (.own id len::l)=true) :
  ∃b,st.oi id=some b/\(m=2->b.f=true)/\b.w=true/\id ∉ seen/\len=none/\fU st m (id::seen) l=true:=by
 simp only[fU]at h;split at h
 .rename_i b d;have hlen:∀o:Option Int,(match o with|none=>true|some _=>false)=true->o=none:=by
   intro o j;cases o with
   |none=>rfl|some _=>cases j
  have e:∀c:Bool,(!c)=true->c=false:=by intro c n;cases c with|false=>rfl|true=>cases n
  have f:NK seen id=false->id ∉ seen:=fun g p=>by rw[On.2 p]at g;cases g
  rcases i with rfl|rfl
  .simp only[aE,jH]at h;exact⟨b,d,fun _=>h.1.1.elim (fun h=>h.elim (fun h=>h) (fun h=>by cases h)) (fun h=>by cases h),h.1.2.1.1,f (e _ h.1.2.1.2),hlen _ h.1.2.2,h.2⟩
  .simp only[aE]at h;exact⟨b,d,fun q=>(by cases q),h.1.2.1.1,f (e _ h.1.2.1.2),hlen _ h.1.2.2,h.2⟩
 .cases h
def awu {m:Nat}{seen:List Nat}{c:AC}{l:List AC}(b:∀id len,c≠.own id len)(h:fU st m seen (c::l)=true):fU st m seen l=true:=by
 cases c with
 |own id len=>exact absurd rfl (b id len)|ro f e t xs=>simp only[fU,aE]at h;exact h.2|_=>exact h
def WJ {m:Nat}(g:m=2\/m=3):∀{l:List AC} {seen:List Nat},fU st m seen l=true->(hx l).Nodup/\(∀id∈hx l,id ∉ seen)/\∀id len,AC.own id len∈l->len=none/\∃b,st.oi id=some b
 |[],seen,_=>⟨List.nodup_nil,fun id hi=>by simp[hx]at hi,fun id len hi=>by simp at hi⟩
 |c::l,seen,h=>by
  by_cases q:∃id len,c=.own id len
  .obtain⟨id,len,rfl⟩:=q;obtain⟨b,s,_,_,t,hlen,u⟩:=azR g h;obtain⟨j,e,n⟩:=WJ g u;refine⟨ajA.2 ⟨fun hi=>e id hi (by simp),j⟩,fun i hi=>?_,fun i f hi=>?_⟩
   .rcases cK.1 (show i∈id::hx l from hi) with rfl|hi
    .exact t
    .exact fun v=>e i hi (by simp[v])
   .rcases cK.1 hi with d|hi
    .cases d;exact⟨hlen,b,s⟩
    .exact n i f hi
  .have p:∀id len,c≠.own id len:=fun id len d=>q ⟨id,len,d⟩
   obtain⟨j,e,n⟩:=WJ g (awu p h);have d:hx (c::l)=hx l:=by
    cases c with
    |own id len=>exact absurd rfl (p id len)|_=>rfl
   rw[d];refine⟨j,e,fun i f hi=>?_⟩;rcases cK.1 hi with x|hi
   .exact absurd x.symm (p i f)
   .exact n i f hi
def ad6 (id:Nat):∀(l:List AC),look (st.gone l).bl id=if id∈hx l then some none else look st.bl id
 |[]=>by simp[hx,St.gone]
 |c::l=>by
  have d:=ad6 id l;cases c with
  |own i len =>
   show look ((i,none)::(st.gone l).bl) id=_;rw[ar];by_cases b:i=id
   .simp[b,hx]
   .rw[ag b,d];have f:¬id=i:=fun e=>b e.symm
    simp[hx,f]
  |_=>exact d
structure aq8 (w':World) (okE:Nat->Prop) (f:Bool) (bH:Nat->Option Nat) (G:Gh) (st:St) (z:Nat×Nat×eF×Value):Prop where
 wr:z.2.2.1.w=true
 nf:z.2.2.1.f=f
 pos:0<z.2.2.1.t.n
 row:∃rows,w'.ownsRow 0 z.2.2.1.e z.2.2.1.t.n z.2.2.2 z.2.2.1.xs.length rows/\et w' okE z.2.2.1.t rows z.2.2.1.xs
 oi:∀g,z.2.2.2.ownBlock=some g->bH g=some z.1
 hv:z.2.2.2=G.hv z.2.1
 old:∃b,look st.bl z.2.1=some (some b)/\b.t=z.2.2.1.t
def FrC.len {w:World}{okE:Nat->Prop}{own:Nat->Option Nat}:∀{t:Ty} {x:t.D} {j:Nat} {cs:List Value},FrC w okE own t x j cs->cs.length=t.n
 |.int _,_,_,_,h=>by rw[show _=_ from h];rfl
 |.bool,_,_,_,h=>by rw[show _=_ from h];rfl
 |.str,_,_,_,h=>by rw[show _=_ from h];rfl
 |.unit,_,_,_,h=>by rw[show _=_ from h];rfl
 |.pair a b,_,_,_,h=>by obtain⟨f,g,rfl,c,d⟩:=h;simp[Ty.n,FrC.len c,FrC.len d]
 |.sl e t,_,_,_,h=>by obtain⟨v,rows,rfl,_⟩:=h;rfl
def FrC.els {w:World}{okE aj7:Nat->Prop}{own:Nat->Option Nat}:∀{t:Ty} {x:t.D} {j:Nat} {cs:List Value},FrC w okE own t x j cs->(∀g,okE g->aj7 g)->FrC w aj7 own t x j cs
 |.int _,_,_,_,h,_=>h|.bool,_,_,_,h,_=>h|.str,_,_,_,h,_=>h|.unit,_,_,_,h,_=>h|.pair a b,_,_,_,h,c=>by obtain⟨i,l,e,d,f⟩:=h;exact⟨i,l,e,FrC.els d c,FrC.els f c⟩
 |.sl e t,_,_,_,h,c=>by obtain⟨v,rows,d,f,m,n,p⟩:=h;exact⟨v,rows,d,f,m,n,kY c p⟩
def ny.aBE {w:World}{okE aj7:Nat->Prop}{own:Nat->Option Nat}(b:∀g,okE g->aj7 g):∀{rs:List (Ty×Bool)} {x:Args rs} {j:Nat} {vs:List Value},ny w okE own rs x j vs->ny w aj7 own rs x j vs
 |[],_,_,_,h=>h|_::_,_,_,_,h=>by obtain⟨v,c,e,⟨cs,d,f⟩,i⟩:=h;exact⟨v,c,e,⟨cs,FrC.els d b,f⟩,ny.aBE b i⟩
def aDV (h:Inv w0 G st a w){l:List AC}:∀e t c v xs,c∈l->bo G w st.bx st.bl c v->cn st e t c=some xs->Rd w (fun _=>True) (.sl e t) xs [v]:=fun e t c v xs _=>TO h e t c v xs
def ad7 {w':World}{okE:Nat->Prop}{f:Bool}{bH:Nat->Option Nat}:∀{t:Ty} {B x:t.D} {j:Nat} {l h:List AC} {vs u cs:List Value},
  im st t l=some (B,h)->bY (bo G w st.bx st.bl) l vs->(∀id len,AC.own id len∈l->len=none/\∃b,st.oi id=some b)->FrC w' okE bH t x j cs->vs=cs++u ->
  ∃(D:List AC) (L:List (Nat×Nat×eF×Value)),l=D++h/\bY (bo G w st.bx st.bl) h u/\(sP f t x l).2=h/\(sP f t x l).1=L.map (fun z=>(z.2.1,some z.2.2.1))/\L.map (·.2.1)=hx D /\
   (∀z∈L,j<=z.1/\z.1<j+t.n/\aq8 w' okE f bH G st z)/\(∀z∈L,∀A∈L,z.1=A.1->z=A)
 |.int k,B,x,j,l,h,vs,u,cs,g,hrel,bf,i,m=>by
  cases l with
  |nil=>simp[im]at g
  |cons c l =>
   cases c with
   |int q n =>
    simp only[im]at g;split at g
    .cases g;subst m;rw[show cs=_ from i]at hrel;exact⟨[_],[],rfl,hrel.2,rfl,rfl,rfl,fun z d=>by simp at d,fun z d=>by simp at d⟩
    .cases g
   |_=>simp[im]at g
 |.bool,B,x,j,l,h,vs,u,cs,g,hrel,bf,i,m=>by
  cases l with
  |nil=>simp[im]at g
  |cons c l =>
   cases c with
   |bool b =>
    simp only[im]at g;cases g;subst m;rw[show cs=_ from i]at hrel;exact⟨[_],[],rfl,hrel.2,rfl,rfl,rfl,fun z d=>by simp at d,fun z d=>by simp at d⟩
   |_=>simp[im]at g
 |.str,B,x,j,l,h,vs,u,cs,g,hrel,bf,i,m=>by
  cases l with
  |nil=>simp[im]at g
  |cons c l =>
   cases c with
   |str b =>
    simp only[im]at g;cases g;subst m;rw[show cs=_ from i]at hrel;exact⟨[_],[],rfl,hrel.2,rfl,rfl,rfl,fun z d=>by simp at d,fun z d=>by simp at d⟩
   |_=>simp[im]at g
 |.unit,B,x,j,l,h,vs,u,cs,g,hrel,bf,i,m=>by simp only[im]at g;cases g;subst m;rw[show cs=[] from i]at hrel;exact⟨[],[],rfl,hrel,by simp[sP],by simp[sP],rfl,fun z d=>by simp at d,fun z d=>by simp at d⟩
 |.pair p q,B,x,j,l,h,vs,u,cs,g,hrel,bf,i,m=>by
  simp only[im]at g;split at g
  .rename_i y W X;split at g
   .rename_i z qA d;cases g;obtain⟨qB,qC,rfl,Y,Z⟩:=i;obtain⟨D,qd,M,qe,N,qf,qg,E,qh⟩:=ad7 (f:=f) X hrel bf Y (by rw[m,ku]);obtain⟨qi,qj,qk,ql,qm,qn,qo,F,qp⟩:=ad7 (f:=f) (l:=W) d qe (fun id len qq=>bf id len (by rw[M];simp[qq])) Z rfl;refine⟨D++qi,qd++qj,by rw[M,qk,ku],ql,?_,?_,?_,fun z d=>?_,fun z d A s O=>?_⟩
    .simp only[sP,N,qm]
    .simp only[sP,N,qf,qn,Zv]
    .rw[Zv,qg,qo];have app:∀(a b:List AC),hx (a++b)=hx a++hx b:=by
      intro a b
      induction a with
      |nil=>rfl
      |cons c a R =>
       cases c with
       |own id len=>simp[hx,R]|_=>simp[hx,R]
     rw[app]
    .rcases eK.1 d with d|d
     .obtain⟨S,qt,H⟩:=E z d;exact⟨S,by simp only[Ty.n];omega,H⟩
     .obtain⟨S,qt,H⟩:=F z d;exact⟨by omega,by simp only[Ty.n];omega,H⟩
    .rcases eK.1 d with d|d<;>rcases eK.1 s with s|s
     .exact qh z d A s O
     .have:=(E z d).2.1;have:=(F A s).1;omega
     .have:=(F z d).1;have:=(E A s).2.1;omega
     .exact qp z d A s O
   .cases g
  .cases g
 |.sl e t,B,x,j,l,h,vs,u,cs,g,hrel,bf,i,m=>by
  cases l with
  |nil=>simp[im]at g
  |cons c l =>
   simp only[im]at g;split at g
   .rename_i qD C;cases g;obtain⟨v,rows,rfl,qu,qv,qw,qx⟩:=i;subst m;have qy:bo G w st.bx st.bl c v:=hrel.1;have I:bY (bo G w st.bx st.bl) h u:=hrel.2;cases c with
    |own id len =>
     obtain⟨hlen,b,T⟩:=bf id len (by simp);subst hlen;simp only[cn,T]at C;split at C
     .split at C
      .rename_i qz;refine⟨[.own id none],[(j,id,⟨e,t,x,f,true⟩,v)],rfl,I,rfl,rfl,rfl,fun z d=>?_,fun z d A s _=>?_⟩
       .simp at d;subst d;refine⟨bh _,by simp[Ty.n],rfl,rfl,qu,⟨rows,qv,qx⟩,qw,qy.2.2,b,dm T,Ty.beq_eq qz⟩
       .simp at d s;rw[d,s]
      .cases C
     .cases C
    |nil=>exact⟨[_],[],rfl,I,rfl,rfl,rfl,fun z d=>by simp at d,fun z d=>by simp at d⟩
    |ro qE qF qG qH=>exact⟨[_],[],rfl,I,rfl,rfl,rfl,fun z d=>by simp at d,fun z d=>by simp at d⟩
    |_=>simp[cn]at C
   .cases g
def TQ {cp:St}(h:fW st cp)(pm:PM):∀(i:Nat) (os:List Operand),fV cp pm i os=fV st pm i os
 |0,[]=>rfl|_+1,[]=>rfl|0,o::os=>by simp only[fV];rw[abA h.tm,NQ h os,h.bx]
 |i+1,o::os=>by simp only[fV];rw[abA h.tm,TQ h pm i os]
def BW (h:Inv w0 G st a w){ok nw:Nat->Prop}{own0:Nat->Option Nat}{g0:Nat}{pm:PM}:∀(i:Nat) (ps:List (Ty×Bool)) (os:List Operand) (x:Args ps),
  (∀e t c v xs,c∈fV st pm i os->bo G w st.bx st.bl c v->cn st e t c=some xs->Rd w ok (.sl e t) xs [v])->iQ st pm i ps os=some x ->
  (∀p o y,kj os i=some o->kj ps i=some p->im2 st pm p o=some y->(pm=.rd->∀e t c v xs,c∈(st.dB o).cells->bo G w st.bx st.bl c v->cn st e t c=some xs->Rd w ok (.sl e t) xs [v])->aGW w ok nw own0 g0 pm p y (a.eval o)) ->
  ∃o p,kj os i=some o/\kj ps i=some p/\(∃y,im2 st pm p o=some y)/\BV w ok nw own0 g0 pm i ps x (os.map a.eval) (a.eval o)
 |0,[],os,x,_,b,_=>by cases os<;>simp[iQ]at b
 |_+1,[],os,x,_,b,_=>by cases os<;>simp[iQ]at b
 |0,p::ps,[],x,_,b,_=>by simp[iQ]at b
 |_+1,p::ps,[],x,_,b,_=>by simp[iQ]at b
 |0,p::ps,o::os,x,f,b,j=>by
  simp only[iQ]at b;split at b
  .rename_i y g;split at b
   .rename_i l m;cases b;refine⟨o,p,rfl,rfl,⟨y,g⟩,os.map a.eval,rfl,j p o y rfl rfl g (fun s e t c v xs d=>f e t c v xs ?_),I2 h ps os l (fun e t c v xs d=>f e t c v xs ?_) m⟩
    .subst s;simp[fV,d]
    .simp[fV,d]
   .cases b
  .cases b
 |i+1,p::ps,o::os,x,f,b,j=>by
  simp only[iQ]at b;split at b
  .rename_i y g;split at b
   .rename_i l m;cases b;obtain⟨u,z,n,q,A,B⟩:=BW h i ps os l (fun e t c v xs d=>f e t c v xs (by simp[fV,d])) m (fun p o y n q=>j p o y n q);exact⟨u,z,n,q,A,a.eval o,os.map a.eval,rfl,aq7 h (fun e t c v xs d=>f e t c v xs (by simp[fV,d])) g,B⟩
   .cases b
  .cases b
def Jp (h:Inv w0 G st a w){own0 bH:Nat->Option Nat}(n:∀g i,own0 g=some i->(G.own g).isSome=true)(L:List (Nat×eF×Value))(B:Option (Nat×Nat×List AC))(f:Bool)(g:Nat)
  (j:bH g=none/\((G.nw g/\(G.own g=none\/(own0 g).isSome=true))\/(f=false/\RO G false g))):RO (G.back w.heap.size own0 bH L B) f g:=by
 obtain⟨l,e⟩:=j;have bf:(G.back w.heap.size own0 bH L B).own g=none:=by
  show(if g<w.heap.size/\own0 g=none then G.own g else match bH g with|none=>none|some _=>tH L B g)=none;by_cases c:g<w.heap.size/\own0 g=none
  .rw[ak c];rcases e with ⟨_,b|b⟩|⟨_,b⟩
   .exact b
   .rw[c.2]at b;cases b
   .exact b.1
  .rw[ag c,l]
 refine⟨bf,?_⟩;rcases e with ⟨b,_⟩|⟨b,m⟩
 .exact .inl b
 .rcases m.2 with d|d
  .exact .inl d
  .exact .inr ⟨b,d.2⟩
def Oo (h:Inv w0 G st a w){own0:Nat->Option Nat}(e:∀g b,own0 g=some b->(G.own g).isSome=true) :
  Handed w (fun g=>w0.w.heap.size<=g\/w0.fr g) (RO G false) (fun g=>G.nw g/\(G.own g=none\/(own0 g).isSome=true)) own0 where
 kC g f:=by
  refine⟨h.atk f,.inl ?_⟩;cases i:G.own g with
  |none=>rfl|some k=>have:=(h.own g k i).2.1;omega
 bf g b c:=by obtain⟨k,d⟩:=fC.1 (e g b c);obtain⟨j,l,_⟩:=h.own g k d;exact⟨⟨h.TI d,.inr (by rw[c];rfl)⟩,l,j⟩
 hb g b c:=by obtain⟨k,d⟩:=fC.1 (e g b c);exact h.aDO d
 cz g f:=by
  cases i:own0 g with
  |none=>rfl
  |some b =>
   have:=e g b i;rw[f.1]at this;cases this
def awv {ok:Nat->Prop}{p:Ty×Bool}(c:p.2=true){x:Args [p]}{cs:Array Value}(h:dp w ok [p] x [.agg cs]):Rd w ok p.1 x.1 cs.toList:=by obtain⟨v,i,d,⟨e,f,b⟩,_⟩:=h;rw[c]at b;have:v=.agg cs:=(sD d).1.symm;rw[this]at b;have g:cs=e.toArray:=Value.agg.inj b;rw[g];exact f
def TR {G:Gh}{bx:List (Nat×List AC)}{bl:List (Nat×Option eF)}{L:List (Nat×eF×Value)}(h:∀c v,sQ L c v->bo G w bx bl c v){c:CV}{v:Value}(b:atr L c v):dL G w bx bl c v:=by
 cases c with
 |c x=>exact h x v b
 |agg l =>
  obtain⟨cs,d,e⟩:=b;exact⟨cs,d,e.imp h⟩
def aDW (h:Inv w0 G st a w){con:Ll}{ok:Nat->Prop}{w':World}{g0:Nat}{u:Value}{y:Args con.rs×Args con.qs}{us:List Value}(cz:∀g,ok g->RO G false g)
  {t:Bool} (x:rdM con.m=some t) (n:ZG con w w' ok (fun g=>G.nw g/\(G.own g=none\/(none:Option Nat).isSome=true)) (fun _=>none) g0 u y us) (N:dX (fun g=>(none:Option Nat).isSome=true) w w') {d:Tmp}
  (p:aqJ t con.rs st d y.1 k=some r) (O:q9 w0 k r K):K (a.put (some d) (ej us)) w':=by
 obtain⟨bH,kC,_,n⟩:=n;have n:∃b cs e,us=[.pointer (some ⟨b,0,none⟩)]/\w.heap.size<=b/\(bH b).isSome=true/\w'.heap[b]?=some (.cells cs e (0,0)) /\
   dp w' (fun g=>bH g=none/\((G.nw g/\(G.own g=none\/(none:Option Nat).isSome=true))\/(t=false/\ok g))) con.rs y.1 [.agg cs]:=by
  unfold rdM at x;split at x
  .rename_i q;cases x;rw[q]at n;obtain⟨b,cs,e,B,A,C,q,D⟩:=n;exact⟨b,cs,e,B,A,C,q,eu (fun g c=>⟨c.1,.inl c.2⟩) D⟩
  .rename_i q;cases x;rw[q]at n;obtain⟨b,cs,e,B,A,C,q,D⟩:=n;exact⟨b,cs,e,B,A,C,q,eu (fun g c=>⟨c.1,c.2.imp_right fun h=>⟨rfl,h⟩⟩) D⟩
  .cases x
 obtain⟨b,cs,e,rfl,qe,R,S,T⟩:=n;obtain⟨qf,i,pm,rs,m,qg,g⟩:=con;dsimp only at *;unfold aqJ at p;split at p
 .rename_i E qh;split at p
  .rename_i W;obtain⟨F,p⟩:=aT p;rw[aE]at F;have X:=awv F.2 T;have Y:aj6 w w' G st (fun _=>none) bH (fun f g=>bH g=none/\((G.nw g/\(G.own g=none\/(none:Option Nat).isSome=true))\/(f=false/\RO G false g))) [] (some (d,b,ex t E.1 y.1.1))
     ((d,ex t E.1 y.1.1)::st.bx) st.bl:=by
    refine⟨N,fun g M c=>(by cases c),fun g M c=>(by cases c),kC,fun f g c=>Jp h (fun g M c=>by cases c) [] _ f g c,fun z j=>(by simp at j),fun z j=>(by simp at j),fun z j=>(by simp at j),fun z j=>(by simp at j),
     fun i b Z=>.inr ⟨fun z j=>(by simp at j),Z,fun _ _=>rfl⟩,fun i qd=>qd,fun z j=>(by simp at j),fun H l s=>?_,fun H s=>l4 _ trivial s,fun H g l I=>?_⟩
    .rw[ar]at s;by_cases L:d=H
     .subst L;rw[ak rfl]at s;cases s;exact .inl ⟨b,rfl⟩
     .rw[ag L]at s;exact .inr ⟨fun qi g qj I=>(by cases I;exact L),s,rfl⟩
    .cases I;refine⟨by simp[ar],.inl W,⟨R,fun z j=>(by simp at j)⟩,cs,e,t,E.1,y.1.1,S,rfl,gv (fun g c=>⟨c.1,c.2.imp_right fun h=>⟨h.1,cz g h.2⟩⟩) X⟩
   obtain⟨hinv,_⟩:=h.back Y;have A:=hinv.put d (fs F.1) (v:=.v (.c (.ptr d 0))) (u:=.pointer (some ⟨b,0,none⟩)) ⟨by simp[ar],by simp[Gh.back]⟩;exact O _ _ _ _ A p
  .cases p
 .cases p
def ZJ {id:Nat}:∀{l:List AC} {k:Nat},id ∉ hx l->TP l id k=none
 |[],_,_=>rfl|c::l,k,h=>by
  cases c with
  |own i len =>
   have b:i≠id:=fun e=>h (by simp[hx,e])
   have d:id ∉ hx l:=fun f=>h (by simp[hx,f])
   simp[TP,b,ZJ d]
  |_=>exact ZJ (l:=l) h
def WK {all:List AC}{g j:Nat}(h:b1 G all g=some j):(G.own g).isSome=true:=by
 unfold b1 at h;split at h
 .rename_i id hid;rw[hid];rfl
 .cases h
def aBF {all:List AC}{g j:Nat}(h:b1 G all g=some j):G.own g≠some .hid:=by
 unfold b1 at h;split at h
 .rename_i id hid;rw[hid];simp
 .cases h
def XU (h:Inv w0 G st a w){ok:Nat->Prop}{w':World}{rs:List (Ty×Bool)}{m:Nat}{y:Args rs}{us:List Value}(cz:∀g,ok g->RO G false g){all:List AC}{bH:Nat->Option Nat}
  (kC:∀g C,bH g=some C->w.heap.size<=g\/(b1 G all g).isSome=true) (Z:dM rs=true)
  (qd:ny w' (fun g=>bH g=none/\((G.nw g/\(G.own g=none\/(b1 G all g).isSome=true))\/(m2 m=false/\ok g))) bH rs y 0 us) (qe:dX (fun g=>(b1 G all g).isSome=true) w w') {d:Tmp}
  (qf:fq (kB d (m2 m) rs y 0).2 st=true) {bl3:List (Nat×Option eF)} {L2:List (Nat×Nat×eF×Value)}
  (qg:∀i b,look bl3 i=some (some b)->(∃z∈L2,z.2.1=i/\z.2.2.1=b)\/((∀z∈L2,z.2.1≠i)/\i ∉ hx all/\look st.bl i=some (some b))) (qh:∀i,(look st.bl i).isSome=true->(look bl3 i).isSome=true)
  (qi:∀z∈L2,(look bl3 z.2.1).isSome=true) (qj:∀z∈L2,∀B∈L2,z.2.1=B.2.1->z=B)
  (E:∀z∈L2,nOf rs<=z.1/\aq8 w' (fun g=>bH g=none/\((G.nw g/\(G.own g=none\/(b1 G all g).isSome=true))\/(m2 m=false/\ok g))) (m2 m) bH G st z) (qk:∀z∈L2,∀B∈L2,z.1=B.1->z=B) :
  ∃Y,Inv w0 Y {st with bl:=(kB d (m2 m) rs y 0).2++bl3} a w'/\bY (dL Y w' st.bx ((kB d (m2 m) rs y 0).2++bl3)) (kB d (m2 m) rs y 0).1 us:=by
 obtain⟨L,M,ql⟩:=aby (id:=d) (f:=m2 m) Z qd;have N:=M.q;have R:∀z∈L,look st.bl z.1=none:=fun z j=>CT qf z.1 (by rw[N];exact jM j)
 have F:∀z,z∈L++L2.map (·.2)->z∈L\/∃p,(p,z)∈L2:=by
  intro z j;rcases eK.1 j with j|j
  .exact .inl j
  .obtain⟨q,N,rfl⟩:=Ey.1 j;exact .inr ⟨q.1,N⟩
 have S:∀z∈L,∀g,z.2.2.ownBlock=some g->∃C,bH g=some C/\C<nOf rs/\z.1=d*64+C:=by intro z j g n;obtain⟨A,t,s⟩:=M.rows z j;exact⟨_,s.oi g n,by omega,by omega⟩
 have qm:aj6 w w' G st (b1 G all) bH (fun f g=>bH g=none/\((G.nw g/\(G.own g=none\/(b1 G all g).isSome=true))\/(f=false/\RO G false g))) (L++L2.map (·.2)) none st.bx ((kB d (m2 m) rs y 0).2++bl3):=by
  refine⟨qe,fun g C n=>WK n,fun g C n=>aBF n,kC,fun f g n=>Jp h (fun g C n=>WK n) _ _ f g n,fun z j=>?_,fun z j B u g n T=>?_,fun z j B u H=>?_,fun z j=>?_,fun i b O=>?_,fun i qn=>?_,fun z j=>?_,fun W l D=>?_,
   fun W qo=>qo,fun W g l H=>by cases H⟩
  .rcases F z j with j|⟨p,j⟩
   .obtain⟨A,t,s⟩:=M.rows z j;obtain⟨rows,I,X⟩:=s.row;refine⟨s.wr,s.pos,⟨rows,I,ad3 (fun qp g n=>⟨n.1,?_⟩) X⟩,fun g n=>by rw[s.oi g n];rfl⟩;rw[s.nf,qp,ajC];exact n.2.imp_right fun h=>⟨h.1,cz g h.2⟩
   .obtain⟨A,s⟩:=E _ j;obtain⟨rows,I,X⟩:=s.row;refine⟨s.wr,s.pos,⟨rows,I,kY (fun g n=>⟨n.1,?_⟩) X⟩,fun g n=>by rw[s.oi g n];rfl⟩;rw[show z.2.1.f=m2 m from s.nf];exact n.2.imp_right fun h=>⟨h.1,cz g h.2⟩
  .rcases F z j with j|⟨p,j⟩<;>rcases F B u with u|⟨qq,u⟩
   .obtain⟨C,A,_,t⟩:=S z j g n;obtain⟨qw,s,_,I⟩:=S B u g T;rw[A]at s;cases s;exact M.uniq z j B u (by omega)
   .obtain⟨C,A,t,_⟩:=S z j g n;obtain⟨s,I⟩:=E _ u;have:=I.oi g T;rw[A]at this;cases this;dsimp only at s;omega
   .obtain⟨C,A,t,_⟩:=S B u g T;obtain⟨s,I⟩:=E _ j;have:=I.oi g n;rw[A]at this;cases this;dsimp only at s;omega
   .have A:=(E _ j).2.oi g n;have t:=(E _ u).2.oi g T;rw[A]at t;have:=qk _ j _ u (eh t);exact Bd (·.2) this
  .rcases F z j with j|⟨p,j⟩<;>rcases F B u with u|⟨qq,u⟩
   .exact M.uniq z j B u H
   .obtain⟨b,A,_⟩:=(E _ u).2.old;have t:=R z j;rw[H]at t;rw[show look st.bl B.1=_ from A]at t;cases t
   .obtain⟨b,A,_⟩:=(E _ j).2.old;have t:=R B u;rw[<-H]at t;rw[show look st.bl z.1=_ from A]at t;cases t
   .exact Bd (·.2) (qj _ j _ u H)
  .rcases F z j with j|⟨p,j⟩
   .exact .inl (R z j)
   .exact .inr ⟨(E _ j).2.hv,(E _ j).2.old⟩
  .rw[c6]at O;cases D:look (kB d (m2 m) rs y 0).2 i with
   |some x =>
    rw[D]at O;cases O;rw[N]at D;obtain⟨v,qt⟩:=abz D;exact .inl ⟨v,by simp[qt]⟩
   |none =>
    rw[D]at O;rcases qg i b O with ⟨z,j,rfl,rfl⟩|⟨A,t,s⟩
    .exact .inl ⟨z.2.2.2,List.mem_append_right _ (Ey.2 ⟨z,j,rfl⟩)⟩
    .refine .inr ⟨fun z j=>?_,s,fun g n=>?_⟩
     .rcases F z j with j|⟨p,j⟩
      .rintro rfl;rw[R z j]at s;cases s
      .exact A _ j
     .unfold b1;rw[n];exact ZJ t
  .rw[c6];cases D:look (kB d (m2 m) rs y 0).2 i with
   |some x=>rfl|none=>exact qh i qn
  .rcases F z j with j|⟨p,j⟩
   .rw[c6,N];have:=jM j;cases D:look (L.map fun z=>(z.1,some z.2.1)) z.1 with
    |some x=>rfl|none=>rw[D]at this;cases this
   .rw[c6];cases D:look (kB d (m2 m) rs y 0).2 z.1 with
    |some x=>rfl|none=>exact qi _ j
  .refine .inr ⟨fun qx g qy H=>(by cases H),D,?_⟩;obtain⟨cs,e,_,t,_⟩:=h.bx W l D;unfold b1;rw[t]
 obtain⟨hinv,qu⟩:=h.back qm;have hrel:=ql.imp fun c v qv=>TR qu (atr.Ji (L':=L++L2.map (·.2)) (fun z j=>by simp[j]) qv)
 exact⟨_,hinv,hrel⟩
def aj8 (h:Inv w0 G st a w){ok:Nat->Prop}{w':World}{rs:List (Ty×Bool)}{m:Nat}{y:Args rs}{us:List Value}(cz:∀g,ok g->RO G false g){all:List AC}{bH:Nat->Option Nat}
  (kC:∀g e,bH g=some e->w.heap.size<=g\/(b1 G all g).isSome=true) (f:dM rs=true)
  (j:ny w' (fun g=>bH g=none/\((G.nw g/\(G.own g=none\/(b1 G all g).isSome=true))\/(m2 m=false/\ok g))) bH rs y 0 us) (l:dX (fun g=>(b1 G all g).isSome=true) w w') {d:Tmp}
  (n:Nat.blt d st.nt=true) (p:fq (kB d (m2 m) rs y 0).2 st=true) {bl3:List (Nat×Option eF)} {L2:List (Nat×Nat×eF×Value)}
  (q:∀i b,look bl3 i=some (some b)->(∃z∈L2,z.2.1=i/\z.2.2.1=b)\/((∀z∈L2,z.2.1≠i)/\i ∉ hx all/\look st.bl i=some (some b))) (s:∀i,(look st.bl i).isSome=true->(look bl3 i).isSome=true)
  (t:∀z∈L2,(look bl3 z.2.1).isSome=true) (u:∀z∈L2,∀c∈L2,z.2.1=c.2.1->z=c)
  (v:∀z∈L2,nOf rs<=z.1/\aq8 w' (fun g=>bH g=none/\((G.nw g/\(G.own g=none\/(b1 G all g).isSome=true))\/(m2 m=false/\ok g))) (m2 m) bH G st z) (x:∀z∈L2,∀c∈L2,z.1=c.1->z=c)
  (A:k {(st.put d (Jf (kB d (m2 m) rs y 0).1)) with bl:=(kB d (m2 m) rs y 0).2++bl3}=some r) (B:q9 w0 k r K):K (a.put (some d) (ej us)) w':=by
 obtain⟨D,hinv,hrel⟩:=XU h cz kC f j l p q s t u v x;have C:=hinv.put d (fs n) (wY (R:=fun _ _=>True) hrel);exact B _ _ _ _ C A
def azS {L:List (Nat×Nat×eF×Value)}{i:Nat}:∀{x:Option eF},look (L.map fun z=>(z.2.1,some z.2.2.1)) i=some x->∃z∈L,z.2.1=i/\x=some z.2.2.1:=by
 induction L with
 |nil=>intro x h;simp[look]at h
 |cons z L c =>
  intro x h;rw[sE,ar]at h;by_cases b:z.2.1=i
  .rw[ak b]at h;exact⟨z,by simp,b,(eh h).symm⟩
  .rw[ag b]at h;obtain⟨y,d,e⟩:=c h;exact⟨y,by simp[d],e⟩
def TS {L:List (Nat×Nat×eF×Value)}{i:Nat}(h:look (L.map fun z=>(z.2.1,some z.2.2.1)) i=none):∀z∈L,z.2.1≠i:=by
 induction L with
 |nil=>intro z b;simp at b
 |cons y L d =>
  rw[sE,ar]at h;by_cases c:y.2.1=i
  .rw[ak c]at h;cases h
  .rw[ag c]at h;intro z b;rcases cK.1 b with rfl|b
   .exact c
   .exact d h z b
def azT {bx:List (Nat×List AC)}{bl:List (Nat×Option eF)}{p:Ty×Bool}{c:CV}{u:Value}{f:p.1.D}(g:dL G w bx bl c u)(hi:imV st p c=some f) :
  ∃d,im st p.1 c.cells=some (f,[])/\bY (bo G w bx bl) c.cells d/\u=(match p.2 with|true=>.agg d.toArray|false=>d.headD undef)/\(p.2=false->d.length=1):=by
 obtain⟨t,b⟩:=p;cases c with
 |agg l =>
  cases b with
  |false=>simp[imV]at hi
  |true =>
   simp only[imV]at hi;split at hi
   .rename_i z e;cases hi;obtain⟨d,h,hrel⟩:=g;exact⟨d.toList,e,hrel,by rw[h,wQ],fun i=>by cases i⟩
   .cases hi
 |c x =>
  cases b with
  |true=>simp[imV]at hi
  |false =>
   simp only[imV]at hi;split at hi
   .rename_i z e;cases hi;exact⟨[u],e,⟨g,trivial⟩,rfl,fun _=>rfl⟩
   .cases hi
def Lz (c:CV):aQ [c]=c.cells:=by simp[aQ]
def att (h:Inv w0 G st a w){ok:Nat->Prop}{w':World}{rs:List (Ty×Bool)}{m:Nat}{q:Ty×Bool}{y:Args rs}{y2:q.1.D}{us:List Value}{u:Value}(cz:∀g,ok g->RO G false g){c:CV}{f:Bool}{bH:Nat->Option Nat}
  (Z:dL G w st.bx st.bl c u) {qd:q.1.D} (qe:imV st q c=some qd) (qf:fU st (pmM f) [] c.cells=true)
  (kC:∀g qg,bH g=some qg->w.heap.size<=g\/(b1 G (aQ [c]) g).isSome=true)
  (qh:ny w' (fun g=>bH g=none/\((G.nw g/\(G.own g=none\/(b1 G (aQ [c]) g).isSome=true))\/(m2 m=false/\ok g))) bH [q] (y2,()) (nOf rs) [u])
  (qi:ny w' (fun g=>bH g=none/\((G.nw g/\(G.own g=none\/(b1 G (aQ [c]) g).isSome=true))\/(m2 m=false/\ok g))) bH rs y 0 us)
  (qj:dX (fun g=>(b1 G (aQ [c]) g).isSome=true) w w') (qk:dM rs=true) {d:Tmp} (ql:fq (kB d (m2 m) rs y 0).2 st=true) :
  ∃N,Inv w0 N {st with bl:=(kB d (m2 m) rs y 0).2++((sP (m2 m) q.1 y2 c.cells).1++st.bl)} a w'/\bY (dL N w' st.bx ((kB d (m2 m) rs y 0).2++((sP (m2 m) q.1 y2 c.cells).1++st.bl))) (kB d (m2 m) rs y 0).1 us:=by
 have O:=WJ (st:=st) (m:=pmM f) (by cases f<;>simp[pmM]) qf;have qm:=Lz c;obtain⟨v,qB,C,⟨cs,hfr,j⟩,_⟩:=qh;have qn:v=u:=(sD C).1.symm;subst qn;obtain⟨R,S,hrel,p,hlen⟩:=azT Z qe;have qo:R=cs++[]:=by
  rw[fD];cases H:q.2 with
  |true =>
   rw[H]at p j;rw[p]at j;have:=Value.agg.inj j;simpa using Bd Array.toList this
  |false =>
   rw[H]at p j;have h1:=hlen H;have s:cs.length=1:=by have qp:=FrC.len hfr;obtain⟨qC,qq,B,qt,qu,_⟩:=Oi (ok:=fun _=>True) (aDV h) hrel S;have qv:=qt.len;have qw:=bY.len qu;have:qq=[]:=XO qw.symm;subst this;rw[fD]at B;subst B;rw[qp,<-qv];exact h1
   match R,cs,h1,s,p,j with
   |[T],[W],_,_,p,j =>
    have:T=W:=by have qx:v=T:=p;have t:v=W:=j;rw[<-qx,<-t]
    rw[this]
 obtain⟨qD,L,A,_,_,t,I,M,X⟩:=ad7 (f:=m2 m) S hrel O.2.2 hfr qo;rw[fD]at A;have qy:∀z∈L,∀D∈L,z.2.1=D.2.1->z=D:=by
  have E:(L.map (·.2.1)).Nodup:=by rw[I,<-A];exact O.1
  intro z e D qz C;clear t I M X
  induction L with
  |nil=>simp at e
  |cons q L qA =>
   rw[sE,ajA]at E;rcases cK.1 e with A|h1<;>rcases cK.1 qz with B|s
   .rw[A,B]
   .exact absurd (Ey.2 ⟨D,s,by rw[<-C,A]⟩) E.1
   .exact absurd (Ey.2 ⟨z,h1,by rw[C,B]⟩) E.1
   .exact qA E.2 h1 s
 refine XU h cz kC qk qi qj ql (L2:=L) (bl3:=(sP (m2 m) q.1 y2 c.cells).1++st.bl) (fun i b l=>?_) (fun i F=>?_) (fun z e=>?_) qy (fun z e=>⟨(M z e).1,(M z e).2.2⟩) X
 .rw[t,c6]at l;cases n:look (L.map fun z=>(z.2.1,some z.2.2.1)) i with
  |some x =>
   rw[n]at l;dsimp only at l;obtain⟨z,e,h1,s⟩:=azS n;rw[s]at l;exact .inl ⟨z,e,h1,eh (eh l)⟩
  |none =>
   rw[n]at l;have Y:=TS n;refine .inr ⟨Y,fun F=>?_,l⟩;rw[qm,A,<-I]at F;obtain⟨z,e,rfl⟩:=Ey.1 F;exact Y z e rfl
 .rw[t,c6];cases n:look (L.map fun z=>(z.2.1,some z.2.2.1)) i with
  |some x=>rfl|none=>exact F
 .rw[t,c6];cases n:look (L.map fun z=>(z.2.1,some z.2.2.1)) z.2.1 with
  |some x=>rfl|none=>exact absurd rfl (TS n z e)
def apj (h:Inv w0 G st a w){con:Ll}{f:Bool}(I:con.pm=.own f){ok:Nat->Prop}{w':World}{g0:Nat}{u:Value}{y:Args con.rs×Args con.qs}{us:List Value}(cz:∀g,ok g->RO G false g){c:CV}
  (L:dL G w st.bx st.bl c u) {p:Ty×Bool} (M:kj con.ps con.i=some p) (N:azQ con) {O:p.1.D} (S:imV st p c=some O) (t:fU st (pmM f) [] c.cells=true)
  (n:ZG con w w' ok (fun g=>G.nw g/\(G.own g=none\/(b1 G (aQ [c]) g).isSome=true)) (b1 G (aQ [c])) g0 u y us) (v:dX (fun g=>(b1 G (aQ [c]) g).isSome=true) w w') {d:Tmp}
  (j:abg con.rs con.qs con.m st c d y k=some r) (x:q9 w0 k r K):K (a.put (some d) (ej us)) w':=by
 obtain⟨bH,kC,A,n⟩:=n;rw[I]at A;obtain⟨qe,i,pm,rs,m,qf,g⟩:=con;dsimp only at *;unfold abg at j;obtain⟨B,j⟩:=aT j;simp only[aE,jH]at B;obtain⟨⟨⟨T,C⟩,D⟩,E⟩:=B;have W:m=2\/m=3:=T.imp aK aK;have F:ny w' (fun g=>bH g=none/\((G.nw g/\(G.own g=none\/(b1 G (aQ [c]) g).isSome=true))\/(m2 m=false/\ok g))) bH rs y.1 0 us:=by rcases W with rfl|rfl<;>exact n
 have qg:=WJ (st:=st) (m:=pmM f) (by cases f<;>simp[pmM]) t;have X:=Lz c;split at j
 ·
  refine aj8 h cz kC E F v D C (L2:=[]) (bl3:=(st.gone c.cells).bl) (fun i b l=>.inr ?_) (fun i Y=>?_) (fun z e=>by simp at e) (fun z e=>by simp at e) (fun z e=>by simp at e) (fun z e=>by simp at e) j x
  .rw[ad6]at l;split at l
   .cases l
   .exact⟨fun z e=>by simp at e,by rw[X];assumption,l⟩
  .rw[ad6];split
   .rfl
   .exact Y
 ·
  rename_i q y qh;have Z:q=p:=by
   rcases N with s|⟨qi,s,H⟩
   .cases s
   .cases s;rw[M]at H;exact(eh H).symm
  subst Z;obtain⟨qj,hinv,hrel⟩:=att (q:=q) (y2:=y.2.1) h cz L S t kC A F v E C;have qd:=hinv.put d (fs D) (wY (R:=fun _ _=>True) hrel);exact x _ _ _ _ qd j
 .cases j
def cD (g0:Nat)(g:Nat):Option Nat:=if g=g0 then some 0 else none
def pA {g0 g:Nat}(h:g≠g0):cD g0 g=none:=by simp[cD,h]
def rb (h:Inv w0 G st a w){b:Nat}{O:List AC}(qf:look st.bx b=some O){w':World}{bH:Nat->Option Nat}
  (kC:∀g m,bH g=some m->w.heap.size<=g\/(cD (G.hb b) g).isSome=true) (qg:dX (fun g=>(cD (G.hb b) g).isSome=true) w w') {p:Ty×Bool} {z:p.1.D} {cs:Array Value} {e:TypeId} {n:Nat}
  (qh:∃m,bH (G.hb b)=some m/\n<=m) (qi:w'.heap[G.hb b]?=some (.cells cs e (0,0)))
  {R S:Nat->Prop} {fb f:Bool} (qj:∀g,R g->(G.nw g/\(G.own g=none\/(cD (G.hb b) g).isSome=true))\/(fb=false/\RO G false g))
  (qk:∀g,S g->(G.nw g/\(G.own g=none\/(cD (G.hb b) g).isSome=true))\/(f=false/\RO G false g))
  (ql:Rd w' (fun g=>bH g=none/\R g) p.1 z cs.toList) {q:List (Nat×Option eF)} {B:List (Nat×eF×Value)} {d:Nat}
  (F:Fr w' (fun g=>bH g=none/\S g) f bH d 0 (0+n) q B) (qm:fq q st=true) :
  Inv w0 (G.back w.heap.size (cD (G.hb b)) bH B (some (b,G.hb b,ex fb p.1 z))) {st with bx:=(b,ex fb p.1 z)::st.bx,bl:=q++st.bl} a w' /\
   ∀c v,sQ B c v->bo (G.back w.heap.size (cD (G.hb b)) bH B (some (b,G.hb b,ex fb p.1 z))) w' ((b,ex fb p.1 z)::st.bx) (q++st.bl) c v:=by
 obtain⟨qy,qz,_,bf,_⟩:=h.bx b O qf;have L:=F.q;have T:∀g m,cD (G.hb b) g=some m->(G.own g).isSome=true:=by
  intro g m j;unfold cD at j;split at j
  .rename_i A;rw[A,bf];rfl
  .cases j
 have qn:∀g m,cD (G.hb b) g=some m->G.own g≠some .hid:=by
  intro g m j;unfold cD at j;split at j
  .rename_i A;rw[A,bf];simp
  .cases j
 have W:∀z∈B,look st.bl z.1=none:=fun z M=>CT qm z.1 (by rw[L];exact jM M)
 have N:∀z∈B,∀g,z.2.2.ownBlock=some g->∃m,bH g=some m/\m<n/\z.1=d*64+m:=by intro z M g j;obtain⟨C,D,u⟩:=F.rows z M;exact⟨_,u.oi g j,by omega,by omega⟩
 refine h.back (okE:=fun f g=>bH g=none/\((G.nw g/\(G.own g=none\/(cD (G.hb b) g).isSome=true))\/(f=false/\RO G false g))) ⟨qg,T,qn,kC,fun f g j=>Jp h T _ _ f g j,fun y t=>?_,fun y t X Y g j qo=>?_,F.uniq,
  fun y t=>.inl (W y t),fun i qp E=>?_,fun i qq=>?_,fun y t=>?_,fun H l s=>?_,fun H qt=>l4 _ trivial qt,fun H g l A=>?_⟩
 .obtain⟨C,D,u⟩:=F.rows y t;obtain⟨rows,Z,qu⟩:=u.row;refine⟨u.wr,u.pos,⟨rows,Z,ad3 (fun qv g j=>⟨j.1,?_⟩) qu⟩,fun g j=>by rw[u.oi g j];rfl⟩;rw[u.nf,qv,ajC];exact qk g j.2
 .obtain⟨m,C,_,D⟩:=N y t g j;obtain⟨qw,u,_,Z⟩:=N X Y g qo;rw[C]at u;cases u;exact F.uniq y t X Y (by omega)
 .rw[c6]at E;cases s:look q i with
  |some x =>
   rw[s]at E;cases E;rw[L]at s;obtain⟨v,qx⟩:=abz s;exact .inl ⟨v,qx⟩
  |none =>
   rw[s]at E;refine .inr ⟨fun y t=>?_,E,fun g j=>?_⟩
   .rintro rfl;have qd:look st.bl y.1=some (some qp):=E;rw[W y t]at qd;cases qd
   .refine pA ?_;rintro rfl;rw[bf]at j;cases j
 .rw[c6];cases s:look q i with
  |some x=>rfl|none=>exact qq
 .rw[c6,L];have:=jM t;cases s:look (B.map fun z=>(z.1,some z.2.1)) y.1 with
  |some x=>rfl|none=>rw[s]at this;cases this
 .rw[ar]at s;by_cases I:b=H
  .subst I;rw[ak rfl]at s;cases s;exact .inl ⟨_,rfl⟩
  .rw[ag I]at s;refine .inr ⟨fun qA g qB A=>(by cases A;exact I),s,?_⟩;obtain⟨cs,e,_,D,_⟩:=h.bx H l s;refine pA ?_;intro A;rw[A,bf]at D;cases D;exact I rfl
 .cases A;obtain⟨m,qe,qC⟩:=qh;refine⟨by simp[ar],.inr rfl,⟨by rw[qe];rfl,fun y t j=>?_⟩,cs,e,fb,p.1,z,qi,rfl,gv (fun g j=>⟨j.1,qj g j.2⟩) ql⟩;obtain⟨qw,C,D,_⟩:=N y t _ j;rw[qe]at C;cases C;omega
def aBG (h:Inv w0 G st a w){con:Ll}(N:con.pm=.box){ok:Nat->Prop}{w':World}{u:Value}{y:Args con.rs×Args con.qs}{us:List Value}(cz:∀g,ok g->RO G false g){b qj:Nat}{A:List AC}(t:look st.bx b=some A)
  {p:Ty×Bool} (O:kj con.ps con.i=some p) (S:p.2=true) (T:azQ con)
  (x:ZG con w w' ok (fun g=>G.nw g/\(G.own g=none\/(cD (G.hb b) g).isSome=true)) (cD (G.hb b)) (G.hb b) u y us) (B:dX (fun g=>(cD (G.hb b) g).isSome=true) w w') {d:Tmp}
  (l:ai7 con.rs con.qs con.m st (.c (.ptr b qj)) d y k=some r) (C:q9 w0 k r K):K (a.put (some d) (ej us)) w':=by
 obtain⟨bH,kC,I,x⟩:=x;rw[N]at I;obtain⟨D,cs,e,E,W⟩:=I;obtain⟨qk,i,pm,rs,m,ql,g⟩:=con;dsimp only at *;unfold ai7 at l;split at l
 .rename_i _ q y qm qn F;cases F;have X:q=p:=by
   rcases T with s|⟨qo,s,M⟩
   .cases s
   .cases s;rw[O]at M;exact(eh M).symm
  subst X;have H:=awv S W;have nil:Fr w' (fun g=>bH g=none/\((G.nw g/\(G.own g=none\/(cD (G.hb b) g).isSome=true))\/(false=false/\ok g))) false bH d 0 (0+nOf rs) [] []:=Fr.nil;split at l
  .obtain⟨n,l⟩:=aT l;rw[aE]at n;obtain⟨hinv,_⟩:=rb (fb:=false) (f:=false) h t kC B D E (fun g j=>j.imp_right fun h=>⟨rfl,cz g h⟩) (fun g j=>j.imp_right fun h=>⟨h.1,cz g h.2⟩) H nil rfl;have hrel:=CU (f:=false) (bx:=(b,ex false q.1 y.2.1)::st.bx) (bl:=[]++st.bl) n.2 (eu (fun g j=>Jp (bH:=bH) h (own0:=cD (G.hb b)) (fun g Y j=>by
    obtain⟨_,_,_,bf,_⟩:=h.bx b A t;unfold cD at j;split at j
    .rename_i s;rw[s,bf];rfl
    .cases j) [] (some (b,G.hb b,ex false q.1 y.2.1)) false g ⟨j.1,j.2.imp_right fun h=>⟨rfl,cz g h⟩⟩) x)
   have z:=hinv.put d (fs n.1) (wY (R:=fun _ _=>True) hrel);exact C _ _ _ _ z l
  .obtain⟨n,l⟩:=aT l;rw[aE]at n;obtain⟨hinv,_⟩:=rb (fb:=false) (f:=false) h t kC B D E (fun g j=>j.imp_right fun h=>⟨rfl,cz g h⟩) (fun g j=>j.imp_right fun h=>⟨h.1,cz g h.2⟩) H nil rfl;have hrel:=CU (f:=true) (bx:=(b,ex false q.1 y.2.1)::st.bx) (bl:=[]++st.bl) n.2 (eu (fun g j=>Jp (bH:=bH) h (own0:=cD (G.hb b)) (fun g Y j=>by
    obtain⟨_,_,_,bf,_⟩:=h.bx b A t;unfold cD at j;split at j
    .rename_i s;rw[s,bf];rfl
    .cases j) [] (some (b,G.hb b,ex false q.1 y.2.1)) true g ⟨j.1,.inl j.2⟩) x)
   have z:=hinv.put d (fs n.1) (wY (R:=fun _ _=>True) hrel);exact C _ _ _ _ z l
  .obtain⟨n,l⟩:=aT l;simp only[aE,jH]at n;obtain⟨⟨⟨Z,qd⟩,qe⟩,qf⟩:=n;have qg:ny w' (fun g=>bH g=none/\((G.nw g/\(G.own g=none\/(cD (G.hb b) g).isSome=true))\/(m2 m=false/\ok g))) bH rs y.1 0 us:=by rcases Z.imp aK aK with rfl|rfl<;>exact x
   obtain⟨L,qh,F⟩:=aby (id:=d) (f:=m2 m) qf qg;obtain⟨hinv,qi⟩:=rb (fb:=false) h t kC B D E (fun g j=>j.imp_right fun h=>⟨rfl,cz g h⟩) (fun g j=>j.imp_right fun h=>⟨h.1,cz g h.2⟩) H qh qd;have hrel:=F.imp fun c v n=>TR qi n
   have z:=hinv.put d (fs qe) (wY (R:=fun _ _=>True) hrel);exact C _ _ _ _ z l
 .cases l
def nwC (G:Gh)(c:Bool)(b g:Nat):Prop:=(G.nw g/\(G.own g=none\/(cD (G.hb b) g).isSome=true))\/(c=false/\RO G false g)
def aBH (h:Inv w0 G st a w){con:Ll}(W:con.pm=.cur){ok:Nat->Prop}{w':World}{u:Value}{y:Args con.rs×Args con.qs}{us:List Value}(cz:con.m=1\/con.m=2\/∀g,ok g->RO G false g){b qn:Nat}{B:List AC}(x:look st.bx b=some B)
  {p:Ty×Bool} (X:kj con.ps con.i=some p) (Y:p.2=true) (Z:azQ con)
  (t:ZG con w w' ok (nwC G (b5 B) b) (cD (G.hb b)) (G.hb b) u y us) (D:dX (fun g=>(cD (G.hb b) g).isSome=true) w w') {d:Tmp}
  (n:ai8 con.rs con.qs con.m st (.c (.ptr b qn)) d y k=some r) (E:q9 w0 k r K):K (a.put (some d) (ej us)) w':=by
 obtain⟨bH,kC,M,t⟩:=t;rw[W]at M;obtain⟨F,cs,e,H,N⟩:=M;obtain⟨qo,i,pm,rs,m,qp,g⟩:=con;dsimp only at *;have O:∀g S,cD (G.hb b) g=some S->(G.own g).isSome=true:=by
  intro g S j;obtain⟨_,_,_,bf,_⟩:=h.bx b B x;unfold cD at j;split at j
  .rename_i z;rw[z,bf];rfl
  .cases j
 unfold ai8 at n;split at n
 .rename_i _ q y qq qt I;cases I;have qd:q=p:=by
   rcases Z with z|⟨qu,z,T⟩
   .cases z
   .cases z;rw[X]at T;exact(eh T).symm
  subst qd;have C:=awv Y N;rw[x]at n;dsimp only at n;generalize b5 B=l at n C t N;have nil:Fr w' (fun g=>bH g=none/\(nwC G l b g)) l bH d 0 (0+nOf rs) [] []:=Fr.nil;split at n
  .obtain⟨s,n⟩:=aT n;rw[aE]at s;obtain⟨hinv,_⟩:=rb (fb:=l) (f:=l) h x kC D F H (fun g j=>j) (fun g j=>j) C nil rfl;have qe:∀g,ok g->RO G false g:=by
    rcases cz with h1|h1|h1
    .cases h1
    .cases h1
    .exact h1
   have hrel:=CU (f:=false) (bx:=(b,ex l q.1 y.2.1)::st.bx) (bl:=[]++st.bl) s.2 (eu (fun g j=>Jp (bH:=bH) h (own0:=cD (G.hb b)) O [] (some (b,G.hb b,ex l q.1 y.2.1)) false g ⟨j.1,by
    rcases j.2 with h1|h1
    .exact h1.imp_right fun h=>⟨rfl,h.2⟩
    .exact .inr ⟨rfl,qe g h1⟩⟩) t)
   have A:=hinv.put d (fs s.1) (wY (R:=fun _ _=>True) hrel);exact E _ _ _ _ A n
  .obtain⟨s,n⟩:=aT n;rw[aE]at s;obtain⟨hinv,_⟩:=rb (fb:=l) (f:=l) h x kC D F H (fun g j=>j) (fun g j=>j) C nil rfl;have hrel:=CU (f:=l) (bx:=(b,ex l q.1 y.2.1)::st.bx) (bl:=[]++st.bl) s.2 (eu (fun g j=>Jp (bH:=bH) h (own0:=cD (G.hb b)) O [] (some (b,G.hb b,ex l q.1 y.2.1)) l g ⟨j.1,j.2⟩) t);have A:=hinv.put d (fs s.1) (wY (R:=fun _ _=>True) hrel);exact E _ _ _ _ A n
  .obtain⟨s,qf⟩:=aT n;simp only[aE]at s;obtain⟨⟨⟨qg,qh⟩,qi⟩,qj⟩:=s;cases aK qg;have qk:ny w' (fun g=>bH g=none/\nwC G l b g) bH rs y.1 0 us :=
    ny.aBE (fun g j=>⟨j.1,j.2.elim (fun h=>h) fun h=>by cases h.1⟩) t
   obtain⟨L,ql,I⟩:=aby (id:=d) (f:=l) qj qk;obtain⟨hinv,qm⟩:=rb (fb:=l) h x kC D F H (fun g j=>j) (fun g j=>j) C ql qh;have hrel:=I.imp fun c v s=>TR qm s
   have A:=hinv.put d (fs qi) (wY (R:=fun _ _=>True) hrel);exact E _ _ _ _ A qf
 .cases n
def ayC {i:Nat}{os:List Operand}{o:Operand}(h:kj os i=some o):anL st i os=st.dB o:=by unfold anL;rw[h]
def ajd {st:St}{p:Ty×Bool}{l:List AC}{y:p.1.D}(h:imV st p (.agg l)=some y):p.2=true/\im st p.1 l=some (y,[]):=by
 obtain⟨t,b⟩:=p;cases b with
 |false=>simp[imV]at h
 |true =>
  simp only[imV]at h;split at h
  .rename_i z c;cases h;exact⟨rfl,c⟩
  .cases h
def ZK {st:St}{pm:PM}:∀(i:Nat) (ps:List (Ty×Bool)) (os:List Operand) (x:Args ps),iQ st pm i ps os=some x->∃op p y,kj os i=some op/\kj ps i=some p/\im2 st pm p op=some y
 |0,[],os,x,b=>by cases os<;>simp[iQ]at b
 |_+1,[],os,x,b=>by cases os<;>simp[iQ]at b
 |0,p::ps,[],x,b=>by simp[iQ]at b
 |_+1,p::ps,[],x,b=>by simp[iQ]at b
 |0,p::ps,o::os,x,b=>by
  simp only[iQ]at b;split at b
  .rename_i y c;exact⟨o,p,y,rfl,rfl,c⟩
  .cases b
 |i+1,p::ps,o::os,x,b=>by
  simp only[iQ]at b;split at b
  .split at b
   .rename_i d e;exact ZK i ps os d e
   .cases b
  .cases b
def ad8:∀{l:List AC},vT l=true->∀id len,AC.own id len ∉ l
 |[],_,id,len=>by simp
 |c::l,h,id,len=>by
  cases c with
  |own i b=>simp[vT]at h|_=>simp[ad8 (l:=l) h]
def aww {f:FuncId}{con:Ll}(ql:ZH P w0 f con)(h:Inv w0 G st a w){args:List Operand}{d:Tmp}{x:Args con.ps}{y:Args con.rs×Args con.qs}(j:con.g x=some y)(qh:iQ st con.pm con.i con.ps args=some x)
  (D:(con.pm=.cur/\(con.m=1\/con.m=2))\/∀e t c v xs,c∈fV st con.pm con.i args->bo G w st.bx st.bl c v->cn st e t c=some xs->Rd w (RO G false) (.sl e t) xs [v])
  (z:(match con.pm with
   |.rd=>match rdM con.m with
    |some f=>aqJ f con.rs st d y.1 k|none=>none
   |.own _=>abg con.rs con.qs con.m st (anL st con.i args) d y k|.box=>ai7 con.rs con.qs con.m st (anL st con.i args) d y k|.cur=>ai8 con.rs con.qs con.m st (anL st con.i args) d y k)=some r) (qt:q9 w0 k r K) :
  Calls P f (args.map a.eval).toArray w fun e qi=>∃v,e=.returned v/\K (a.put (some d) v) qi/\∀(s:Operand) (g0:Nat),(con.pm=.box\/con.pm=.cur)->kj args con.i=some s->a.eval s=.pointer (some ⟨g0,0,none⟩)->∀k,k<w.heap.size->k≠g0->qi.heap[k]?=w.heap[k]?:=by
 have qw:=ql.2.1;obtain⟨s,p,qx,S,qy,qu⟩:=ZK con.i con.ps args x qh;rw[ayC S]at z;cases A:con.pm with
 |rd =>
  have D:=D.resolve_left fun h=>by rw[A]at h;cases h.1
  rw[A]at z qu;dsimp only at z;split at z
  .rename_i qf qd;obtain⟨_,_,_,_,_,qe⟩:=BW (ok:=RO G false) (nw:=fun g=>G.nw g/\(G.own g=none\/(none:Option Nat).isSome=true)) (own0:=fun _=>none) (g0:=0) h con.i con.ps args x D qh (fun p s y I qj n N=>by have N:=N A;rw[A]at n ⊢;exact aq7 h N n)
   obtain⟨O,L,T,_,_,qe⟩:=BW (ok:=RO G false) (nw:=fun g=>G.nw g/\(G.own g=none\/(none:Option Nat).isSome=true)) (own0:=fun _=>none) (g0:=0) h con.i con.ps args x D qh (fun p s y I qj n N=>by have N:=N A;rw[A]at n ⊢;exact aq7 h N n)
   refine Calls.mono (ql.2.2 x y j w h.below _ _ _ 0 _ _ (Oo h (own0:=fun _=>none) fun g R qk=>by cases qk) qe) fun e qi C=>?_
   obtain⟨us,rfl,W,X⟩:=C;exact⟨_,rfl,aDW h (fun g j=>j) qd W X z qt,fun _ _ q=>by rcases q with q|q<;>cases q⟩
  .cases z
 |own qf =>
  have D:=D.resolve_left fun h=>by rw[A]at h;cases h.1
  rw[A]at z;dsimp only at z;have key:∀p s y,im2 st con.pm p s=some y->fU st (pmM qf) [] (st.dB s).cells=true/\wT st [p] [st.dB s]=true/\im1 st p s=some y:=by
   intro p s y n;rw[A]at n;simp only[im2]at n;split at n
   .rename_i M;rw[aE]at M;exact⟨M.1,M.2,n⟩
   .cases n
  obtain⟨O,L,T,_,_,qe⟩:=BW (ok:=RO G false) (nw:=fun g=>G.nw g/\(G.own g=none\/(b1 G (aQ [st.dB s]) g).isSome=true)) (own0:=b1 G (aQ [st.dB s])) (g0:=0) h con.i con.ps args x D qh (fun L B y I qj n N=>by
   obtain⟨qz,qO,qA⟩:=key L B y n;have:B=s:=by rw[S]at I;exact(eh I).symm
   subst this;rw[A];have qR:∀g,RO G (m2 (pmM qf)) g->b1 G (aQ [st.dB B]) g=none/\((G.nw g/\(G.own g=none\/(b1 G (aQ [st.dB B]) g).isSome=true))\/(qf=false/\RO G false g)):=by
    intro g j;refine⟨by simp[b1,j.1],?_⟩;rcases j.2 with qv|qv
    .exact .inl ⟨qv,.inl j.1⟩
    .refine .inr ⟨?_,j.1,.inr ⟨rfl,qv.2⟩⟩;cases qf with
     |false=>rfl|true=>cases qv.1
   obtain⟨W,_⟩:=Hz (m:=pmM qf) (by cases qf<;>simp[pmM]) qR h (aQ [st.dB B]) [] [L] [st.dB B] [a.eval B] (y,()) (pre:=[]) (seen:=[]) ⟨h.dB B,trivial⟩ (by simp) (fun id len qd=>by simp at qd) (by rw[fD,Lz];exact qz) qO (by have:imV st L (st.dB B)=some y:=qA;simp[BP,this])
   obtain⟨v,xe,C,Y,_⟩:=W;cases C;exact Y)
  obtain⟨qz,qO,qA⟩:=key p s qx qu;have:O=s:=by rw[S]at T;exact(eh T).symm
  subst this;refine Calls.mono (ql.2.2 x y j w h.below _ _ _ 0 _ _ (Oo h (own0:=b1 G (aQ [st.dB O])) fun g R qk=>WK qk) qe) fun e qi C=>?_
  obtain⟨us,rfl,W,X⟩:=C;exact⟨_,rfl,apj h A (fun g j=>j) (h.dB O) qy qw qA qz W X z qt,fun _ _ q=>by rcases q with q|q<;>cases q⟩
 |cur =>
  rw[A]at z;dsimp only at z;have key:∀p s y,im2 st con.pm p s=some y->∃b l,st.dB s=.c (.ptr b 0)/\look st.bx b=some l/\vT l=true/\imV st p (.agg l)=some y:=by
   intro p s y n;rw[A]at n;simp only[im2]at n;split at n
   .rename_i b E;split at n
    .rename_i l F;split at n
     .rename_i qB;exact⟨b,l,E,F,qB,n⟩
     .cases n
    .cases n
   .cases n
  obtain⟨b,l,E,F,qB,qC⟩:=key p s qx qu;have qD:p.2=true:=(ajd qC).1;obtain⟨cs,e,qE,bf,hrel⟩:=h.bx b l F;have qF:∀g R,cD (G.hb b) g=some R->(G.own g).isSome=true:=by
   intro g R j;unfold cD at j;split at j
   .rename_i C;rw[C,bf];rfl
   .cases j
  obtain⟨ok,qS,qT,D⟩:∃ok:Nat->Prop,(∀g,ok g->cD (G.hb b) g=none)/\(con.m=1\/con.m=2\/∀g,ok g->RO G false g)/\∀e t c v xs,c∈fV st con.pm con.i args->bo G w st.bx st.bl c v->cn st e t c=some xs->Rd w ok (.sl e t) xs [v]:=by
   rcases D with ⟨_,h1⟩|h1
   .refine⟨fun g=>∀d,G.own g≠some (.bx d),fun g j=>pA fun C=>j b (by rw[C,bf]),h1.elim .inl fun h=>.inr (.inl h),fun e t c v xs _ z H=>jv h z H (fun id len qP _ qW=>⟨fun g j d H=>?_,fun qX g j d H=>?_⟩) fun f e u qQ _ g j d H=>?_⟩
    .rw[j.1]at H;cases H
    .obtain⟨_,_,qj,_⟩:=(h.bl id qP qW).wr qX;rw[qj g j]at H;cases H
    .rw[j.1]at H;cases H
   .refine⟨RO G false,fun g j=>pA fun C=>?_,.inr (.inr fun g j=>j),h1⟩;have:=j.1;rw[C,bf]at this;cases this
  obtain⟨O,L,T,_,_,qe⟩:=BW (ok:=ok) (nw:=nwC G (b5 l) b) (own0:=cD (G.hb b)) (g0:=G.hb b) h con.i con.ps args x D qh (fun L B y I qj n N=>by
   have:B=s:=by rw[S]at I;exact(eh I).symm
   subst this;obtain⟨qY,qZ,qm,qn,_,qG⟩:=key L B y n;rw[E]at qm;cases qm;rw[F]at qn;cases qn;rw[A];have Y:a.eval B=.pointer (some ⟨G.hb b,0,none⟩):=by have:=h.dB B;rw[E]at this;exact this.2
   refine⟨Y,by simp[cD],cs,e,qE,?_⟩;have qH:∀e t c v xs,c∈l->bo G w st.bx st.bl c v->cn st e t c=some xs->Rd w (fun g=>cD (G.hb b) g=none/\nwC G (b5 l) b g) (.sl e t) xs [v]:=by
    intro e t c v xs qd z H;refine jv h z H (fun id len qP M _=>?_) fun f e u qQ M g j=>?_
    .subst M;exact absurd qd (ad8 qB id len)
    .subst M;refine⟨pA fun C=>?_,?_⟩
     .have:=j.1;rw[C,bf]at this;cases this
     .cases xa:b5 l with
      |true =>
       have:=Oj xa f e u qQ qd;subst this;exact .inl ⟨j.2.elim (fun h=>h) fun h=>(by cases h.1),.inl j.1⟩
      |false=>exact .inr ⟨rfl,j.1,j.2.imp_right fun h=>⟨rfl,h.2⟩⟩
   obtain⟨xb,qI,qo,qK,qL,_⟩:=Oi qH hrel (ajd qG).2;have:qI=[]:=XO qL.len.symm;subst this;rw[fD]at qo;rw[qo];exact qK)
  have:O=s:=by rw[S]at T;exact(eh T).symm
  subst this;have hd0:=Oo h (own0:=cD (G.hb b)) qF;refine Calls.mono (ql.2.2 x y j w h.below ok (nwC G (b5 l) b) (cD (G.hb b)) (G.hb b) _ _ ⟨fun g j=>.inl (hd0.kC g j),fun g R qk=>⟨.inl (hd0.bf g R qk).1,(hd0.bf g R qk).2⟩,qS,hd0.hb⟩ qe) fun e qi C=>?_
  obtain⟨us,rfl,W,X⟩:=C;rw[E]at z;exact⟨_,rfl,aBH h A qT F qy qD qw W X z qt,fun qg g0 _ qp Y k qM qN=>X.block k qM (by
   have:qg=O:=by rw[S]at qp;exact(eh qp).symm
   subst this;have q:=h.dB qg;rw[E]at q;have q:a.eval qg=.pointer (some ⟨G.hb b,0,none⟩):=q.2;rw[Y]at q;injection q with q
   injection q with q
   injection q with q
   rw[pA (fun e=>qN (by rw[e,q]))];simp)⟩
 |box =>
  have D:=D.resolve_left fun h=>by rw[A]at h;cases h.1
  rw[A]at z;dsimp only at z;have key:∀p s y,im2 st con.pm p s=some y->∃b l,st.dB s=.c (.ptr b 0)/\look st.bx b=some l/\imV st p (.agg l)=some y:=by
   intro p s y n;rw[A]at n;simp only[im2]at n;split at n
   .rename_i b E;split at n
    .rename_i l F;exact⟨b,l,E,F,n⟩
    .cases n
   .cases n
  obtain⟨b,l,E,F,qC⟩:=key p s qx qu;have qD:p.2=true:=(ajd qC).1;have qF:∀g R,cD (G.hb b) g=some R->(G.own g).isSome=true:=by
   intro g R j;obtain⟨_,_,_,bf,_⟩:=h.bx b l F;unfold cD at j;split at j
   .rename_i C;rw[C,bf];rfl
   .cases j
  obtain⟨O,L,T,_,_,qe⟩:=BW (ok:=RO G false) (nw:=fun g=>G.nw g/\(G.own g=none\/(cD (G.hb b) g).isSome=true)) (own0:=cD (G.hb b)) (g0:=G.hb b) h con.i con.ps args x D qh (fun L B y I qj n N=>by
   have:B=s:=by rw[S]at I;exact(eh I).symm
   subst this;obtain⟨qY,qZ,qm,qn,qG⟩:=key L B y n;rw[E]at qm;cases qm;rw[F]at qn;cases qn;rw[A];obtain⟨cs,e,qE,bf,hrel⟩:=h.bx b l F;have Y:a.eval B=.pointer (some ⟨G.hb b,0,none⟩):=by have:=h.dB B;rw[E]at this;exact this.2
   refine⟨Y,by simp[cD],cs,e,qE,?_⟩;have qH:∀e t c v xs,c∈l->bo G w st.bx st.bl c v->cn st e t c=some xs->Rd w (RO G false) (.sl e t) xs [v]:=by
    have xc:∀(i:Nat) (Z:List Operand),kj Z i=some B->∀c∈l,c∈fV st .box i Z:=by
     intro i
     induction i with
     |zero =>
      intro Z qq c M;cases Z with
      |nil=>cases qq
      |cons o Z =>
       cases qq;simp[fV,E,F,M]
     |succ i xd =>
      intro Z qq c M;cases Z with
      |nil=>cases qq|cons o Z=>simp[fV,xd Z qq c M]
    exact fun e t c v xs qd=>D e t c v xs (by rw[A];exact xc con.i args I c qd)
   obtain⟨xb,qI,qo,qK,qL,_⟩:=Oi qH hrel (ajd qG).2;have:qI=[]:=XO qL.len.symm;subst this;rw[fD]at qo;rw[qo];exact qK)
  have:O=s:=by rw[S]at T;exact(eh T).symm
  subst this;refine Calls.mono (ql.2.2 x y j w h.below _ _ _ _ _ _ (Oo h qF) qe) fun e qi C=>?_
  obtain⟨us,rfl,W,X⟩:=C;rw[E]at z;exact⟨_,rfl,aBG h A (fun g j=>j) F qy qD qw W X z qt,fun qg g0 _ qp Y k qM qN=>X.block k qM (by
   have:qg=O:=by rw[S]at qp;exact(eh qp).symm
   subst this;have q:=h.dB qg;rw[E]at q;have q:a.eval qg=.pointer (some ⟨G.hb b,0,none⟩):=q.2;rw[Y]at q;injection q with q
   injection q with q
   injection q with q
   rw[pA (fun e=>qN (by rw[e,q]))];simp)⟩
def aDX {con:Ll}{args:List Operand}(h:¬(con.pm=.cur/\(con.m=1\/con.m=2))):aDF st con args=fV st con.pm con.i args:=by
 unfold aDF;split
 .rename_i b;rw[b]at h ⊢;split
  .exact absurd ⟨rfl,.inl ‹_›⟩ h
  .exact absurd ⟨rfl,.inr ‹_›⟩ h
  .rfl
 .rfl
def abB {f:FuncId}{con:Ll}(m:ZH P w0 f con)(h:Inv w0 G st a w){args:Array Operand}{ts:Array TypeId}(A:o.op=.call {callee:=.value (.func f),args:=args,argTypes:=ts})
  (b:abh con st o.dst args.toList k=some r) (B:q9 w0 k r K):o.wp P a w (fun C g=>K C g/\∀(z:Operand) (n:Nat),(con.pm=.box\/con.pm=.cur)->kj args.toList con.i=some z->a.eval z=.pointer (some ⟨n,0,none⟩)->∀k,k<w.heap.size->k≠n->g.heap[k]?=w.heap[k]?) Q:=by
 unfold Oper.wp;rw[Jo m.1 A];unfold abh at b;dsimp only at b;obtain⟨I,p,L,M,D⟩:=h.freeze (aDF st con args.toList);split at b
 .rename_i x i;cases j:con.g x with
  |none=>rw[j]at b;cases b
  |some y =>
   rw[j]at b;simp only[ajz]at b;have E:(args.map a.eval)=(args.toList.map a.eval).toArray:=by rw[<-agb,wQ]
   show Calls P f _ w _;rw[E];cases q:o.dst with
   |none=>rw[q]at b;cases b
   |some d =>
    rw[q]at b;dsimp only at b;refine Calls.mono (aww m p j i (by
     by_cases s:con.pm=.cur/\(con.m=1\/con.m=2)
     .exact .inl s
     .refine .inr fun e t c v xs u=>ZI p (nf:=false) (fun l=>by cases l) (fun l=>by cases l) e t c v xs ?_
      rw[TQ D]at u;rw[aDX s];exact u) b B) fun e g F=>?_
    obtain⟨v,rfl,H,i⟩:=F;exact⟨H,i⟩
 .cases b
def atu {f:FuncId}{con:Ll}(b:ZH P w0 f con)(h:Inv w0 G st a w){args:Array Operand}{ts:Array TypeId}(c:o.op=.call {callee:=.value (.func f),args:=args,argTypes:=ts})
  (d:abh con st o.dst args.toList k=some r) (e:q9 w0 k r K):o.wp P a w K Q:=by
 exact Oper.wp_mono (fun _ _ h=>h.1) (abB b h c d e)
def awx:∀{t:Ty} {x:t.D},ajG t x=true->aGO t x=x
 |.bool,x,h=>Eq.symm h|.int _,x,h=>(cj.1 h).symm|.str,_,h|.unit,_,h|.pair _ _,_,h|.sl _ _,_,h=>by cases h
def awy:∀{t:Ty} {x:t.D},ajG t x=false->aGP t x=x
 |.bool,x,h=>Eq.symm h|.int _,x,_=>rfl|.str,_,_|.unit,_,_|.pair _ _,_,_|.sl _ _,_,_=>rfl
def atv {bx:List (Nat×List AC)}{bl:List (Nat×Option eF)}:∀{n:Nat} {vs:List Value},vs.length=n->(∀c∈vs,c.oneCell'=true)->bY (bo G w bx bl) (List.replicate n .any) vs
 |0,[],_,_=>trivial|n+1,v::vs,h,b=>by rw[List.replicate_succ];exact⟨b v (by simp),atv (by simpa using h) fun c d=>b c (by simp[d])⟩
 |0,_::_,h,_=>by simp at h
 |_+1,[],h,_=>by simp at h
def atw {f:FuncId}{con:Sel}(M:aq6 P w0 f con)(h:Inv w0 G st a w){args:Array Operand}{ts:Array TypeId}(qj:o.op=.call {callee:=.value (.func f),args:=args,argTypes:=ts})
  (b:aqK con st o.dst args.toList k=some r) (W:q9 w0 k r K):o.wp P a w K Q:=by
 unfold Oper.wp;rw[Jo M.1 qj];unfold aqK at b;dsimp only at b;obtain⟨j,l,qk,ql,X⟩:=h.freeze (fV st (.own true) con.i args.toList);have Y:∀e t c v xs,c∈fV (st.freeze (fV st (.own true) con.i args.toList)) (.own true) con.i args.toList->bo j w (st.freeze (fV st (.own true) con.i args.toList)).bx (st.freeze (fV st (.own true) con.i args.toList)).bl c v->cn (st.freeze (fV st (.own true) con.i args.toList)) e t c=some xs->Rd w (RO j false) (.sl e t) xs [v] :=
  fun e t c v xs C=>ZI l (nf:=false) (fun N=>by cases N) (fun N=>by cases N) e t c v xs (by rw[TQ X]at C;exact C)
 generalize st.freeze (fV st (.own true) con.i args.toList)=i at b l Y;clear qk ql X h;split at b
 .rename_i x Z;cases n:con.g x with
  |none=>rw[n]at b;cases b
  |some y =>
   rw[n]at b;simp only[ajz]at b;have qm:(args.map a.eval)=(args.toList.map a.eval).toArray:=by rw[<-agb,wQ]
   show Calls P f _ w _;rw[qm];cases qd:o.dst with
   |none=>rw[qd]at b;cases b
   |some d =>
    rw[qd]at b;dsimp only at b;obtain⟨op,p,qn,O,qe,qo⟩:=ZK con.i con.ps args.toList x Z;rw[ayC O]at b;have key:∀p op y,im2 i (.own true) p op=some y->fU i (pmM true) [] (i.dB op).cells=true/\wT i [p] [i.dB op]=true/\im1 i p op=some y:=by
     intro p op y A;simp only[im2]at A;split at A
     .rename_i B;rw[aE]at B;exact⟨B.1,B.2,A⟩
     .cases A
    obtain⟨D,E,qf,_,_,qp⟩:=BW (ok:=RO j false) (nw:=fun g=>j.nw g/\(j.own g=none\/(b1 j (aQ [i.dB op]) g).isSome=true)) (own0:=b1 j (aQ [i.dB op])) (g0:=0) l con.i con.ps args.toList x Y Z (fun E s y qg qF A qG=>by
     obtain⟨F,qh,H⟩:=key E s y A;have:s=op:=by rw[O]at qg;exact(eh qg).symm
     subst this;have qq:∀g,RO j (m2 (pmM true)) g->b1 j (aQ [i.dB s]) g=none/\((j.nw g/\(j.own g=none\/(b1 j (aQ [i.dB s]) g).isSome=true))\/(true=false/\RO j false g)):=by
      intro g n;refine⟨by simp[b1,n.1],?_⟩;rcases n.2 with R|R
      .exact .inl ⟨R,.inl n.1⟩
      .cases R.1
     obtain⟨z,_⟩:=Hz (m:=pmM true) (by simp[pmM]) qq l (aQ [i.dB s]) [] [E] [i.dB s] [a.eval s] (y,()) (pre:=[]) (seen:=[]) ⟨l.dB s,trivial⟩ (by simp) (fun id len C=>by simp at C) (by rw[fD,Lz];exact F) qh (by have:imV i E (i.dB s)=some y:=H;simp[BP,this])
     obtain⟨v,qH,S,qt,_⟩:=z;cases S;exact qt)
    obtain⟨F,qh,H⟩:=key p op qn qo;have:D=op:=by rw[O]at qf;exact(eh qf).symm
    subst this;have qu:p=con.q:=by have:=M.2.1;rw[qe]at this;exact eh this
    subst qu;refine Calls.mono (M.2.2 x y n w l.below _ _ _ 0 _ _ (Oo l (own0:=b1 j (aQ [i.dB D])) fun g qI qv=>WK qv) qp) fun e qw S=>?_
    obtain⟨us,rfl,⟨T,I,rfl,z⟩,qi⟩:=S;show K (a.put (some d) (ej [T,I])) qw;cases L:ajG con.b.1 y.2.1 with
    |true =>
     rw[L]at b z;rw[awx L]at b;exact apj (con:=aFL con) (f:=true) l rfl (fun g n=>n) (l.dB D) qe (.inl rfl) H F z qi b W
    |false =>
     rw[L]at b z;rw[awy L]at b;obtain⟨B,b⟩:=aT (show ck _ _=some r from b);simp only[aE]at B;obtain⟨⟨hd1,qx⟩,qy⟩:=B;obtain⟨⟨bH,kC,qz,z⟩,qA⟩:=z;obtain⟨qK,hinv,hrel⟩:=att (q:=con.q) (y2:=y.2.2) (m:=2) (rs:=[con.b]) (y:=(y.2.1,())) (us:=[I]) l (fun g n=>n) (l.dB D) H F kC qz z qi qx qy;refine W _ _ _ _ (hinv.put d (fs hd1) (v:=.Qe (aBf con.a::(kB d true [con.b] (y.2.1,()) 0).1)) (u:=ej [T,I]) ⟨#[T,I],rfl,?_,hrel⟩) b;unfold aBf;split
     .rename_i qB;obtain⟨qC,rfl,qD,qE⟩:=qA qB;exact⟨qC,rfl,atv qD qE⟩
     .exact trivial
 .cases b
end
end Go.Am
