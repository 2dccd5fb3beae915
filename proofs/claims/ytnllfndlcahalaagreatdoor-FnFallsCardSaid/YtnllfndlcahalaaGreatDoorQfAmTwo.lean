/- No condition. -/
import Derived.Test.YtnllfndlcahalaaGreatDoorQfAmCall
set_option linter.all false
namespace Go.Am
open Go.RowKit
section
variable {P:Program} {w0:fc} {w:World} {G:Gh} {st:St} {a:Act} {U:Type} {k:St->Option U} {r:U} {K:Act->World->Prop} {Q:Exit->Act->World->Prop} {o:Oper}
def J9 {f:FuncId}(c:Ze P f){args:Array Operand}{ts:Array TypeId}(d:o.op=.call {callee:=.value (.func f),args:=args,argTypes:=ts}) :
  (execOp a.eval o).run P w=.ok (.enter f (args.map a.eval)) w:=by
 obtain⟨fn,g,h,b⟩:=c;unfold execOp;rw[d]
 have i : ¬ fn.name = "runtime.NumGoroutine" := by simpa using h
 have j:¬fn.body=none:=by intro e;rw[e]at b;cases b
 simp[resolve,Act.eval,Deferred.ofValue,invoke,callFunc,g,i,j]
def Ga:∀(l:List AC) (st:St),gP st (st.freeze l)
 |[],st=>.refl st|c::l,st=>(rM st c).trans (Ga l (st.dD c))
def abQ {i:Gh}{l:List AC}(y:Inv w0 i (st.freeze l) a w){nf:Bool}(z:nf=true->o9 st l=true)(A:nf=true->cj l=true) :
  ∀t c v xs,c∈l->bC i w (st.freeze l).bx (st.freeze l).bl c v->cy (st.freeze l) t c=some xs->∀e,Rd w (RO i nf) (.sl e t) xs [v]:=by
 intro t c v xs d B C e;refine ks y B C (fun id len b j h=>?_) (fun f e u D j=>?_) e
 .subst j;have E:b.w=false:=by
   rcases(Ga l st).bl id with p|⟨q,p,s⟩
   .have:=J6 l st id len b d (p.symm.trans h);rw[h]at this;have:=eT (eT this);rw[this]
   .rw[h]at s;have:=eT (eT s);rw[this]
  refine⟨fun g m=>m.J3 fun n=>?_,fun x=>by rw[E]at x;cases x⟩;obtain⟨q,F,H⟩:=anr (z n) id len d;have:=J6 l st id len q d (eG F);rw[h]at this;cases this;exact H
 .subst j;exact fun g m=>m.J3 fun n=>Pw (A n) f e u D d
def adN {dd:St}(h:dd.tm=st.tm)(x:Operand):dd.ec x=st.ec x:=by
 have:dd.ev x=st.ev x:=by
  cases x with
  |tmp t =>
   show dd.get t=st.get t;unfold St.get;rw[h]
  |_=>rfl
 unfold St.ec;rw[this]
def aGi {dd:St}(h:gP st dd)(p:Ty×Bool)(o:Operand):im1 dd p o=im1 st p o:=by
 unfold im1 imV;rw[adN h.tm];split
 .rw[uv h]
 .rw[uv h]
 .rfl
def aje {dd:St}(h:gP st dd):∀(ps:List (Ty×Bool)) (os:List Operand),OP dd ps os=OP st ps os
 |[],[]=>rfl|[],_::_=>rfl|_::_,[]=>rfl|p::ps,o::os=>by
  simp only[OP];rw[aGi h];split
  .rw[aje h ps os]
  .rfl
def OV {dd:St}(h:gP st dd):∀(os:List Operand),kG dd os=kG st os
 |[]=>rfl|o::os=>by simp only[kG];rw[adN h.tm,OV h os]
def aGj (G:Gh)(bx:List (Nat×List AC))(bl:List (Nat×Option fN))(g:Nat):Key->Prop
 |.bx d=>(look bx d).isSome=true/\g=G.hb d|.bl id=>(look bl id).isSome=true/\(G.hv id).ownBlock=some g|.hid=>False
def Inv.aLI (h:Inv w0 G st a w){w':World}{f:Nat->Prop}(i:eY f w w')(hfr:∀g,f g->(G.own g).isSome=true)(C:∀g,f g->G.own g≠some .hid)
  {G2:Gh} {bx2:List (Nat×List AC)} {bl2:List (Nat×Option fN)} (hnw:G2.nw=G.nw) (df:G2.ok=G.ok) (z:∀g,g<w.heap.size->¬f g->G2.own g=G.own g)
  (p:kI G st.bx st.bl G2 bx2 bl2)
  (D:Yw G w G2 w'->∀d l,look bx2 d=some l->(look st.bx d=some l/\G2.hb d=G.hb d/\¬f (G.hb d))\/(∃cs e,w'.heap[G2.hb d]?=some (.cells cs e (0,0))/\G2.own (G2.hb d)=some (.bx d)/\ch (bC G2 w' bx2 bl2) l cs.toList))
  (E:∀id b,look bl2 id=some (some b)->(look st.bl id=some (some b)/\G2.hv id=G.hv id/\∀g,G.own g=some (.bl id)->¬f g)\/E5 G2 w' id b)
  (bp:∀g k,G2.own g=some k->(w.heap.size<=g\/f g)->g<w'.heap.size/\aGj G2 bx2 bl2 g k) :
  Inv w0 G2 {st with bx:=bx2,bl:=bl2} a w'/\Yw G w G2 w':=by
 have q:Yw G w G2 w':=by
  refine⟨hnw,df,i.size,fun b s j=>?_,fun b s j=>?_⟩
  .have x:¬f b:=fun u=>by have:=hfr b u;rw[j]at this;cases this
   exact⟨(z b s x).trans j,i.block b s x⟩
  .have x:¬f b:=fun u=>C b u j
   exact⟨(z b s x).trans j,i.block b s x⟩
 refine⟨⟨hnw.trans h.nw,df.trans h.rok,?_,h.defers,h.size,h.sp.mono q p,h.F8 q,fun t v F=>(h.tm t v F).mono q p,?_,?_,?_⟩,q⟩
 .refine h.below.step i.os i.tape i.output i.size fun k y u=>i.block k (E1 y h.below.size) fun H=>?_
  obtain⟨key,A⟩:=lX.1 (hfr k H);rcases(h.own k key A).1 with h1|h1
  .omega
  .exact u h1
 .intro d l I;rcases D q d l I with ⟨h1,m,c⟩|h1
  .obtain⟨cs,e,L,B,M⟩:=h.bx d l h1;have hlt:=(h.own _ _ B).2.1;refine⟨cs,e,?_,?_,M.imp fun _ _=>bC.mono q p⟩
   .rw[m,i.block _ hlt c];exact L
   .rw[m,z _ hlt c];exact B
  .exact h1
 .intro id b s;rcases E id b s with ⟨h1,m,c⟩|h1
  .refine(h.bl id b h1).mono q m fun R g S j=>?_
   have hlt:=(h.own _ _ j).2.1;exact⟨(z g hlt (c g j)).trans j,i.block g hlt (c g j)⟩
  .exact h1
 .intro g k y;by_cases n:w.heap.size<=g\/f g
  .obtain⟨h1,m⟩:=bp g k y n;refine⟨?_,h1,by cases k with|bx d=>exact m|bl id=>exact m|hid=>exact m.elim⟩;rcases n with n|n
   .exact .inl (bX h.below.size n)
   .obtain⟨key,A⟩:=lX.1 (hfr g n);exact(h.own g key A).1
  .have hlt:g<w.heap.size:=by
    by_cases N:g<w.heap.size
    .exact N
    .exact absurd (.inl (by omega)) n
   have O:¬f g:=fun u=>n (.inr u)
   rw[z g hlt O]at y;obtain⟨h1,m,c⟩:=h.own g k y;refine⟨h1,E1 m i.size,?_⟩;cases k with
   |hid=>trivial|bx d=>exact⟨(p.bx d c.1).1,by rw[(p.bx d c.1).2];exact c.2⟩
   |bl id=>exact⟨(p.bl id c.1).1,by rw[(p.bl id c.1).2.1];exact c.2⟩
def OW (L:List (Nat×fN×Value))(g:Nat):Option Key:=(L.find? fun z=>z.2.2.ownBlock==some g).map fun z=>.bl z.1
def Dl (L:List (Nat×fN×Value))(B:Option (Nat×Nat×List AC))(g:Nat):Option Key:=match B with
 |some (d,b,_)=>if g=b then some (.bx d) else OW L g|none=>OW L g
def Gh.back (G:Gh)(c:Nat)(own0 bQ:Nat->Option Nat)(L:List (Nat×fN×Value))(B:Option (Nat×Nat×List AC)):Gh :=
 {nw:=G.nw,ok:=G.ok,
  hb:=fun x=>match B with|some (d,b,_)=>if x=d then b else G.hb x|none=>G.hb x,
  hv:=fun i=>match L.find? (·.1==i) with|some z=>z.2.2|none=>G.hv i,
  own:=fun g=>if g<c/\own0 g=none then G.own g else match bQ g with|none=>none|some _=>Dl L B g}
structure anx (w w':World) (G:Gh) (st:St) (own0 bQ:Nat->Option Nat) (okE:Bool->Nat->Prop) (L:List (Nat×fN×Value)) (B:Option (Nat×Nat×List AC))
  (bx2:List (Nat×List AC)) (bl2:List (Nat×Option fN)):Prop where
 keeps:eY (fun g=>(own0 g).isSome=true) w w'
 pass:∀g j,own0 g=some j->(G.own g).isSome=true
 aK8:∀g j,own0 g=some j->G.own g≠some .hid
 new:∀g j,bQ g=some j->w.heap.size<=g\/(own0 g).isSome=true
 els:∀f g,okE f g->RO (G.back w.heap.size own0 bQ L B) f g
 row:∀z∈L,z.2.1.w=true/\0<z.2.1.t.n/\(∃rows,w'.ownsRow 0 z.2.1.e z.2.1.t.n z.2.2 z.2.1.xs.length rows/\fi w' (okE z.2.1.f) z.2.1.t rows z.2.1.xs)/\∀g,z.2.2.ownBlock=some g->(bQ g).isSome=true
 inj:∀z∈L,∀z'∈L,∀g,z.2.2.ownBlock=some g->z'.2.2.ownBlock=some g->z=z'
 uniq:∀z∈L,∀z'∈L,z.1=z'.1->z=z'
 name:∀z∈L,look st.bl z.1=none\/(z.2.2=G.hv z.1/\∃b,look st.bl z.1=some (some b)/\b.t=z.2.1.t)
 bl:∀i b,look bl2 i=some (some b)->(∃v,(i,b,v)∈L)\/((∀z∈L,z.1≠i)/\look st.bl i=some (some b)/\∀g,G.own g=some (.bl i)->own0 g=none)
 bls:∀i,(look st.bl i).isSome=true->(look bl2 i).isSome=true
 blL:∀z∈L,(look bl2 z.1).isSome=true
 bx:∀d l,look bx2 d=some l->(∃g0,B=some (d,g0,l))\/((∀d' g l',B=some (d',g,l')->d'≠d)/\look st.bx d=some l/\own0 (G.hb d)=none)
 bxs:∀d,(look st.bx d).isSome=true->(look bx2 d).isSome=true
 bxB:∀d g l,B=some (d,g,l)->(look bx2 d).isSome=true/\(look st.bx d=none\/G.hb d=g)/\((bQ g).isSome=true/\∀z∈L,z.2.2.ownBlock≠some g) /\
  ∃cs e f t x,w'.heap[g]?=some (.cells cs e (0,0))/\l=ex f t x/\Rd w' (okE f) t x cs.toList
def anx.find {w w':World}{G:Gh}{st:St}{own0 bQ:Nat->Option Nat}{okE:Bool->Nat->Prop}{L:List (Nat×fN×Value)}{B:Option (Nat×Nat×List AC)}
  {bx2:List (Nat×List AC)} {bl2:List (Nat×Option fN)} (h:anx w w' G st own0 bQ okE L B bx2 bl2) {z:Nat×fN×Value} (b:z∈L) {g:Nat} (c:z.2.2.ownBlock=some g) :
  (G.back w.heap.size own0 bQ L B).own g=some (.bl z.1):=by
 obtain⟨t,j⟩:=lX.1 ((h.row z b).2.2.2 g c);have m:OW L g=some (.bl z.1):=by
  unfold OW;cases e:L.find? fun z=>z.2.2.ownBlock==some g with
  |none =>
   have:=am0.1 e z b;simp[c]at this
  |some y =>
   have n:=Vm e;have f:=Vg e;have:=h.inj z b y f g c (by simpa using n);rw[<-this];rfl
 have p:¬(g<w.heap.size/\own0 g=none):=by
  rintro⟨n,f⟩;rcases h.new g _ j with i|i
  .omega
  .rw[f]at i;cases i
 unfold Gh.back;dsimp only;rw[af p,j];dsimp only;unfold Dl;split
 .rename_i d u l;split
  .rename_i q;subst q;obtain⟨_,_,⟨v,s⟩,_⟩:=h.bxB d g l rfl;exact absurd c (s z b)
  .exact m
 .exact m
def Inv.back (h:Inv w0 G st a w){w':World}{own0 bQ:Nat->Option Nat}{okE:Bool->Nat->Prop}{L:List (Nat×fN×Value)}{B:Option (Nat×Nat×List AC)}
  {bx2:List (Nat×List AC)} {bl2:List (Nat×Option fN)} (j:anx w w' G st own0 bQ okE L B bx2 bl2) :
  Inv w0 (G.back w.heap.size own0 bQ L B) {st with bx:=bx2,bl:=bl2} a w'/\∀c v,tw L c v->bC (G.back w.heap.size own0 bQ L B) w' bx2 bl2 c v:=by
 have hvL:∀z∈L,(G.back w.heap.size own0 bQ L B).hv z.1=z.2.2:=by
  intro z I;show(match L.find? (·.1==z.1) with|some z=>z.2.2|none=>G.hv z.1)=_;cases C:L.find? (·.1==z.1) with
  |none =>
   have:=am0.1 C z I;simp at this
  |some y =>
   have h1:=Vm C;have D:=Vg C;rw[j.uniq y D z I (by simpa using h1)]
 have qh:∀i,(∀z∈L,z.1≠i)->(G.back w.heap.size own0 bQ L B).hv i=G.hv i:=by
  intro i M;show(match L.find? (·.1==i) with|some z=>z.2.2|none=>G.hv i)=_;cases C:L.find? (·.1==i) with
  |none=>rfl
  |some y =>
   have h1:=Vm C;exact absurd (by simpa using h1) (M y (Vg C))
 have qi:∀d,(∀F g l,B=some (F,g,l)->F≠d)->(G.back w.heap.size own0 bQ L B).hb d=G.hb d:=by
  intro d N;show(match B with|some (F,E,_)=>if d=F then E else G.hb d|none=>G.hb d)=_;cases B with
  |none=>rfl
  |some q =>
   obtain⟨F,g,l⟩:=q;have:=N F g l rfl;show(if d=F then g else G.hb d)=_;rw[af fun e=>this e.symm]
 have qd:∀d g l,B=some (d,g,l)->(G.back w.heap.size own0 bQ L B).hb d=g:=by intro d g l u;subst u;simp[Gh.back]
 have qo:kI G st.bx st.bl (G.back w.heap.size own0 bQ L B) bx2 bl2:=by
  refine⟨fun d N=>⟨j.bxs d N,?_⟩,fun i M=>⟨j.bls i M,?_,fun qj qp=>?_⟩⟩
  .by_cases H:∃g l,B=some (d,g,l)
   .obtain⟨g,l,H⟩:=H;rw[qd d g l H];rcases(j.bxB d g l H).2.1 with h1|h1
    .rw[h1]at N;cases N
    .exact h1.symm
   .exact qi d fun F g l u qq=>H ⟨g,l,by rw[u,qq]⟩
  .by_cases H:∃z∈L,z.1=i
   .obtain⟨z,I,rfl⟩:=H;rw[hvL z I];rcases j.name z I with h1|⟨h1,_⟩
    .rw[h1]at M;cases M
    .exact h1
   .exact qh i fun z I qt=>H ⟨z,I,qt⟩
  .rcases j.bl i qj qp with ⟨v,W⟩|⟨_,h1,_⟩
   .rcases j.name _ W with h1|⟨_,b,D,m⟩
    .rw[h1]at M;cases M
    .exact⟨b,D,m⟩
   .exact⟨qj,h1,rfl⟩
 have qu:=h.aLI (G2:=G.back w.heap.size own0 bQ L B) (bx2:=bx2) (bl2:=bl2) j.keeps (fun g p=>by
   obtain⟨O,qf⟩:=lX.1 p;exact j.pass g O qf) (fun g p=>by
   obtain⟨O,qf⟩:=lX.1 p;exact j.aK8 g O qf) rfl rfl (fun g p C=>by
   have:own0 g=none:=by
    cases R:own0 g with
    |none=>rfl|some O=>rw[R]at C;exact absurd rfl C
   simp[Gh.back,p,this]) qo (fun qC d l N=>by
   rcases j.bx d l N with ⟨E,p⟩|⟨h1,D,m⟩
   .refine .inr ?_;obtain⟨_,_,⟨qv,qk⟩,cs,e,f,t,x,qe,rfl,qw⟩:=j.bxB d E l p;obtain⟨O,S⟩:=lX.1 qv;refine⟨cs,e,by rw[qd d E _ p];exact qe,?_,VA (iN (fun g p=>j.els f g p) qw)⟩;rw[qd d E _ p];have qg:¬(E<w.heap.size/\own0 E=none):=by
     rintro⟨qD,qx⟩;rcases j.new E O S with m|m
     .omega
     .rw[qx]at m;cases m
    subst p;unfold Gh.back;dsimp only;rw[af qg,S];simp[Dl]
   .exact .inl ⟨D,qi d h1,by rw[m];simp⟩) (fun i b X=>by
   rcases j.bl i b X with ⟨v,W⟩|⟨h1,D,m⟩
   .refine .inr ?_;obtain⟨qy,qz,⟨rows,S,qk⟩,qe⟩:=j.row _ W;have Y:=hvL _ W;refine⟨fun _=>⟨rows,?_,?_,?_⟩,fun ql=>?_,qz⟩
    .rw[Y];exact S
    .rw[Y];exact fun g p=>j.find W p
    .exact l0 (fun g p=>j.els _ g p) qk
    .rw[show b.w=true from qy]at ql;cases ql
   .exact .inl ⟨D,qh i h1,fun g p=>by rw[m g p];simp⟩) (fun g key A qA=>by
   have qg:¬(g<w.heap.size/\own0 g=none):=by
    rintro⟨h1,D⟩;rcases qA with m|m
    .omega
    .rw[D]at m;cases m
   have qE:=A;unfold Gh.back at A;dsimp only at A;rw[af qg]at A;cases R:bQ g with
   |none=>rw[R]at A;cases A
   |some O =>
    rw[R]at A;dsimp only at A;have qm:OW L g=some key->g<w'.heap.size/\aGj (G.back w.heap.size own0 bQ L B) bx2 bl2 g key:=by
     intro Z;unfold OW at Z;cases C:L.find? fun z=>z.2.2.ownBlock==some g with
     |none=>rw[C]at Z;cases Z
     |some y =>
      rw[C]at Z;cases Z;have h1:=Vm C;have D:=Vg C;have m:y.2.2.ownBlock=some g:=by simpa using h1
      refine⟨?_,j.blL y D,by rw[hvL y D];exact m⟩;obtain⟨_,_,⟨rows,S,_⟩,_⟩:=j.row y D;rcases S.2 with ⟨u,_⟩|⟨qn,cap,cur,u,_,qB,_⟩
      .rw[u]at m;simp[Value.ownBlock]at m
      .rw[u]at m;have:qn=g:=by simpa [Value.ownBlock]using m
       subst this;exact(BF.1 qB).1
    unfold Dl at A;split at A
    .rename_i d E l;by_cases u:g=E
     .rw[ag u]at A;cases A;obtain⟨h1,_,_,cs,e,f,t,x,qe,_⟩:=j.bxB d E l rfl;subst u;exact⟨(BF.1 qe).1,h1,(qd d g l rfl).symm⟩
     .rw[af u]at A;exact qm A
    .exact qm A)
 refine⟨qu.1,fun c v T=>?_⟩;cases c with
 |own i len =>
  cases len with
  |some l=>exact T.elim
  |none =>
   obtain⟨b,X⟩:=T;have Y:=hvL _ X;refine⟨j.blL _ X,?_,Y.symm⟩;rw[show(G.back w.heap.size own0 bQ L B).hv i=v from Y];obtain⟨_,_,⟨rows,R,_⟩,_⟩:=j.row _ X;rcases R.2 with ⟨u,_⟩|⟨qn,cap,cur,u,_⟩
   .exact⟨_,_,_,u⟩
   .exact⟨_,_,_,u⟩
 |int k n=>exact T|bool b=>exact T|str s=>exact T|_=>exact T.elim
def iO:List AC->List Nat
 |[]=>[]|.own id _::l=>id::iO l|_::l=>iO l
def aEE {m:Nat}(i:m=2\/m=3){seen:List Nat}{id:Nat}{len:Option Int}{l:List AC}(h:gM st m seen (.own id len::l)=true) :
  ∃b,st.rI id=some b/\(m=2->b.f=true)/\b.w=true/\id ∉ seen/\len=none/\gM st m (id::seen) l=true:=by
 simp only[gM]at h;split at h
 .rename_i b d;have hlen:∀o:Option Int,(match o with|none=>true|some _=>false)=true->o=none:=by
   intro o j;cases o with
   |none=>rfl|some _=>cases j
  have e:∀c:Bool,(!c)=true->c=false:=by intro c n;cases c with|false=>rfl|true=>cases n
  have f:Zd seen id=false->id ∉ seen:=fun g p=>by rw[VJ.2 p]at g;cases g
  rcases i with rfl|rfl
  .simp only[aG,kj]at h;exact⟨b,d,fun _=>h.1.1.elim (fun h=>h.elim (fun h=>h) (fun h=>by cases h)) (fun h=>by cases h),h.1.2.1.1,f (e _ h.1.2.1.2),hlen _ h.1.2.2,h.2⟩
  .simp only[aG]at h;exact⟨b,d,fun q=>(by cases q),h.1.2.1.1,f (e _ h.1.2.1.2),hlen _ h.1.2.2,h.2⟩
 .cases h
def aAW {m:Nat}{seen:List Nat}{c:AC}{l:List AC}(b:∀id len,c≠.own id len)(h:gM st m seen (c::l)=true):gM st m seen l=true:=by
 cases c with
 |own id len=>exact absurd rfl (b id len)|ro f e t xs=>simp only[gM,aG]at h;exact h.2|_=>exact h
def YA {m:Nat}(g:m=2\/m=3):∀{l:List AC} {seen:List Nat},gM st m seen l=true->(iO l).Nodup/\(∀id∈iO l,id ∉ seen)/\∀id len,AC.own id len∈l->len=none/\∃b,st.rI id=some b
 |[],seen,_=>⟨List.nodup_nil,fun id hi=>by simp[iO]at hi,fun id len hi=>by simp at hi⟩
 |c::l,seen,h=>by
  by_cases q:∃id len,c=.own id len
  .obtain⟨id,len,rfl⟩:=q;obtain⟨b,s,_,_,t,hlen,u⟩:=aEE g h;obtain⟨j,e,n⟩:=YA g u;refine⟨auV.2 ⟨fun hi=>e id hi (by simp),j⟩,fun i hi=>?_,fun i f hi=>?_⟩
   .rcases cT.1 (show i∈id::iO l from hi) with rfl|hi
    .exact t
    .exact fun v=>e i hi (by simp[v])
   .rcases cT.1 hi with d|hi
    .cases d;exact⟨hlen,b,s⟩
    .exact n i f hi
  .have p:∀id len,c≠.own id len:=fun id len d=>q ⟨id,len,d⟩
   obtain⟨j,e,n⟩:=YA g (aAW p h);have d:iO (c::l)=iO l:=by
    cases c with
    |own id len=>exact absurd rfl (p id len)|_=>rfl
   rw[d];refine⟨j,e,fun i f hi=>?_⟩;rcases cT.1 hi with x|hi
   .exact absurd x.symm (p i f)
   .exact n i f hi
def agH (id:Nat):∀(l:List AC),look (st.gone l).bl id=if id∈iO l then some none else look st.bl id
 |[]=>by simp[iO,St.gone]
 |c::l=>by
  have d:=agH id l;cases c with
  |own i len =>
   show look ((i,none)::(st.gone l).bl) id=_;rw[au];by_cases b:i=id
   .simp[b,iO]
   .rw[af b,d];have f:¬id=i:=fun e=>b e.symm
    simp[iO,f]
  |_=>exact d
structure avl (w':World) (okE:Nat->Prop) (f:Bool) (bQ:Nat->Option Nat) (G:Gh) (st:St) (z:Nat×Nat×fN×Value):Prop where
 wr:z.2.2.1.w=true
 nf:z.2.2.1.f=f
 pos:0<z.2.2.1.t.n
 row:∃rows,w'.ownsRow 0 z.2.2.1.e z.2.2.1.t.n z.2.2.2 z.2.2.1.xs.length rows/\fi w' okE z.2.2.1.t rows z.2.2.1.xs
 rI:∀g,z.2.2.2.ownBlock=some g->bQ g=some z.1
 hv:z.2.2.2=G.hv z.2.1
 old:∃b,look st.bl z.2.1=some (some b)/\b.t=z.2.2.1.t
def FrC.len {w:World}{okE:Nat->Prop}{own:Nat->Option Nat}:∀{t:Ty} {x:t.D} {j:Nat} {cs:List Value},FrC w okE own t x j cs->cs.length=t.n
 |.int _,_,_,_,h=>by rw[show _=_ from h];rfl
 |.bool,_,_,_,h=>by rw[show _=_ from h];rfl
 |.str,_,_,_,h=>by rw[show _=_ from h];rfl
 |.unit,_,_,_,h=>by rw[show _=_ from h];rfl
 |.pair a b,_,_,_,h=>by obtain⟨f,g,rfl,c,d⟩:=h;simp[Ty.n,FrC.len c,FrC.len d]
 |.sl e t,_,_,_,h=>by obtain⟨v,rows,rfl,_⟩:=h;rfl
def FrC.els {w:World}{okE anz:Nat->Prop}{own:Nat->Option Nat}:∀{t:Ty} {x:t.D} {j:Nat} {cs:List Value},FrC w okE own t x j cs->(∀g,okE g->anz g)->FrC w anz own t x j cs
 |.int _,_,_,_,h,_=>h|.bool,_,_,_,h,_=>h|.str,_,_,_,h,_=>h|.unit,_,_,_,h,_=>h|.pair a b,_,_,_,h,c=>by obtain⟨i,l,e,d,f⟩:=h;exact⟨i,l,e,FrC.els d c,FrC.els f c⟩
 |.sl e t,_,_,_,h,c=>by obtain⟨v,rows,d,f,m,n,p⟩:=h;exact⟨v,rows,d,f,m,n,l0 c p⟩
def pe.aJL {w:World}{okE anz:Nat->Prop}{own:Nat->Option Nat}(b:∀g,okE g->anz g):∀{rs:List (Ty×Bool)} {x:Args rs} {j:Nat} {vs:List Value},pe w okE own rs x j vs->pe w anz own rs x j vs
 |[],_,_,_,h=>h|_::_,_,_,_,h=>by obtain⟨v,c,e,⟨cs,d,f⟩,i⟩:=h;exact⟨v,c,e,⟨cs,FrC.els d b,f⟩,pe.aJL b i⟩
def aIu (h:Inv w0 G st a w){l:List AC}:∀t c v xs,c∈l->bC G w st.bx st.bl c v->cy st t c=some xs->∀e,Rd w (fun _=>True) (.sl e t) xs [v]:=fun t c v xs _=>VI h t c v xs
def agI {w':World}{okE:Nat->Prop}{f:Bool}{bQ:Nat->Option Nat}:∀{t:Ty} {B x:t.D} {j:Nat} {l h:List AC} {vs u cs:List Value},
  im st t l=some (B,h)->ch (bC G w st.bx st.bl) l vs->(∀id len,AC.own id len∈l->len=none/\∃b,st.rI id=some b)->FrC w' okE bQ t x j cs->vs=cs++u ->
  ∃(C:List AC) (L:List (Nat×Nat×fN×Value)),l=C++h/\ch (bC G w st.bx st.bl) h u/\(tu f t x l).2=h/\(tu f t x l).1=L.map (fun z=>(z.2.1,some z.2.2.1))/\L.map (·.2.1)=iO C /\
   (∀z∈L,j<=z.1/\z.1<j+t.n/\avl w' okE f bQ G st z)/\(∀z∈L,∀A∈L,z.1=A.1->z=A)
 |.int k,B,x,j,l,h,vs,u,cs,g,hrel,bp,i,m=>by
  cases l with
  |nil=>simp[im]at g
  |cons c l =>
   cases c with
   |int q n =>
    simp only[im]at g;split at g
    .cases g;subst m;rw[show cs=_ from i]at hrel;exact⟨[_],[],rfl,hrel.2,rfl,rfl,rfl,fun z d=>by simp at d,fun z d=>by simp at d⟩
    .cases g
   |_=>simp[im]at g
 |.bool,B,x,j,l,h,vs,u,cs,g,hrel,bp,i,m=>by
  cases l with
  |nil=>simp[im]at g
  |cons c l =>
   cases c with
   |bool b =>
    simp only[im]at g;cases g;subst m;rw[show cs=_ from i]at hrel;exact⟨[_],[],rfl,hrel.2,rfl,rfl,rfl,fun z d=>by simp at d,fun z d=>by simp at d⟩
   |_=>simp[im]at g
 |.str,B,x,j,l,h,vs,u,cs,g,hrel,bp,i,m=>by
  cases l with
  |nil=>simp[im]at g
  |cons c l =>
   cases c with
   |str b =>
    simp only[im]at g;cases g;subst m;rw[show cs=_ from i]at hrel;exact⟨[_],[],rfl,hrel.2,rfl,rfl,rfl,fun z d=>by simp at d,fun z d=>by simp at d⟩
   |_=>simp[im]at g
 |.unit,B,x,j,l,h,vs,u,cs,g,hrel,bp,i,m=>by simp only[im]at g;cases g;subst m;rw[show cs=[] from i]at hrel;exact⟨[],[],rfl,hrel,by simp[tu],by simp[tu],rfl,fun z d=>by simp at d,fun z d=>by simp at d⟩
 |.pair p q,B,x,j,l,h,vs,u,cs,g,hrel,bp,i,m=>by
  simp only[im]at g;split at g
  .rename_i y W X;split at g
   .rename_i z qA d;cases g;obtain⟨qB,qC,rfl,Y,Z⟩:=i;obtain⟨C,qd,M,qe,N,qf,qg,E,qh⟩:=agI (f:=f) X hrel bp Y (by rw[m,hI]);obtain⟨qi,qj,qk,ql,qm,qn,qo,F,qp⟩:=agI (f:=f) (l:=W) d qe (fun id len qq=>bp id len (by rw[M];simp[qq])) Z rfl;refine⟨C++qi,qd++qj,by rw[M,qk,hI],ql,?_,?_,?_,fun z d=>?_,fun z d A s O=>?_⟩
    .simp only[tu,N,qm]
    .simp only[tu,N,qf,qn,adr]
    .rw[adr,qg,qo];have app:∀(a b:List AC),iO (a++b)=iO a++iO b:=by
      intro a b
      induction a with
      |nil=>rfl
      |cons c a R =>
       cases c with
       |own id len=>simp[iO,R]|_=>simp[iO,R]
     rw[app]
    .rcases gK.1 d with d|d
     .obtain⟨S,qt,H⟩:=E z d;exact⟨S,by simp only[Ty.n];omega,H⟩
     .obtain⟨S,qt,H⟩:=F z d;exact⟨by omega,by simp only[Ty.n];omega,H⟩
    .rcases gK.1 d with d|d<;>rcases gK.1 s with s|s
     .exact qh z d A s O
     .have:=(E z d).2.1;have:=(F A s).1;omega
     .have:=(F z d).1;have:=(E A s).2.1;omega
     .exact qp z d A s O
   .cases g
  .cases g
 |.sl e t,B,x,j,l,h,vs,u,cs,g,hrel,bp,i,m=>by
  cases l with
  |nil=>simp[im]at g
  |cons c l =>
   simp only[im]at g;split at g
   .rename_i qD D;cases g;obtain⟨v,rows,rfl,qu,qv,qw,qx⟩:=i;subst m;have qy:bC G w st.bx st.bl c v:=hrel.1;have I:ch (bC G w st.bx st.bl) h u:=hrel.2;cases c with
    |own id len =>
     obtain⟨hlen,b,T⟩:=bp id len (by simp);subst hlen;simp only[cy,T]at D;split at D
     .rename_i qz;refine⟨[.own id none],[(j,id,⟨e,t,x,f,true⟩,v)],rfl,I,rfl,rfl,rfl,fun z d=>?_,fun z d A s _=>?_⟩
      .simp at d;subst d;refine⟨bG _,by simp[Ty.n],rfl,rfl,qu,⟨rows,qv,qx⟩,qw,qy.2.2,b,eG T,Ty.beq_eq qz⟩
      .simp at d s;rw[d,s]
     .cases D
    |nil=>exact⟨[_],[],rfl,I,rfl,rfl,rfl,fun z d=>by simp at d,fun z d=>by simp at d⟩
    |ro qE qF qG qH=>exact⟨[_],[],rfl,I,rfl,rfl,rfl,fun z d=>by simp at d,fun z d=>by simp at d⟩
    |_=>simp[cy]at D
   .cases g
def VL {dd:St}(h:gP st dd)(pm:PM):∀(i:Nat) (os:List Operand),gN dd pm i os=gN st pm i os
 |0,[]=>rfl|_+1,[]=>rfl|0,o::os=>by simp only[gN];rw[adN h.tm,OV h os,h.bx]
 |i+1,o::os=>by simp only[gN];rw[adN h.tm,VL h pm i os]
def Cf (h:Inv w0 G st a w){ok nw:Nat->Prop}{own0:Nat->Option Nat}{g0:Nat}{pm:PM}:∀(i:Nat) (ps:List (Ty×Bool)) (os:List Operand) (x:Args ps),
  (∀t c v xs,c∈gN st pm i os->bC G w st.bx st.bl c v->cy st t c=some xs->∀e,Rd w ok (.sl e t) xs [v])->kb st pm i ps os=some x ->
  (∀p o y,nv os i=some o->nv ps i=some p->im2 st pm p o=some y->(pm=.rd->∀t c v xs,c∈(st.ec o).cells->bC G w st.bx st.bl c v->cy st t c=some xs->∀e,Rd w ok (.sl e t) xs [v])->aK5 w ok nw own0 g0 pm p y (a.eval o)) ->
  ∃o p,nv os i=some o/\nv ps i=some p/\(∃y,im2 st pm p o=some y)/\VH w ok nw own0 g0 pm i ps x (os.map a.eval) (a.eval o)
 |0,[],os,x,_,b,_=>by cases os<;>simp[kb]at b
 |_+1,[],os,x,_,b,_=>by cases os<;>simp[kb]at b
 |0,p::ps,[],x,_,b,_=>by simp[kb]at b
 |_+1,p::ps,[],x,_,b,_=>by simp[kb]at b
 |0,p::ps,o::os,x,f,b,j=>by
  simp only[kb]at b;split at b
  .rename_i y g;split at b
   .rename_i l m;cases b;refine⟨o,p,rfl,rfl,⟨y,g⟩,os.map a.eval,rfl,j p o y rfl rfl g (fun s t c v xs d=>f t c v xs ?_),JF h ps os l (fun t c v xs d=>f t c v xs ?_) m⟩
    .subst s;simp[gN,d]
    .simp[gN,d]
   .cases b
  .cases b
 |i+1,p::ps,o::os,x,f,b,j=>by
  simp only[kb]at b;split at b
  .rename_i y g;split at b
   .rename_i l m;cases b;obtain⟨u,z,n,q,A,B⟩:=Cf h i ps os l (fun t c v xs d=>f t c v xs (by simp[gN,d])) m (fun p o y n q=>j p o y n q);exact⟨u,z,n,q,A,a.eval o,os.map a.eval,rfl,avk h (fun t c v xs d=>f t c v xs (by simp[gN,d])) g,B⟩
   .cases b
  .cases b
def Ka (h:Inv w0 G st a w){own0 bQ:Nat->Option Nat}(n:∀g i,own0 g=some i->(G.own g).isSome=true)(L:List (Nat×fN×Value))(B:Option (Nat×Nat×List AC))(f:Bool)(g:Nat)
  (j:bQ g=none/\((G.nw g/\(G.own g=none\/(own0 g).isSome=true))\/(f=false/\RO G false g))):RO (G.back w.heap.size own0 bQ L B) f g:=by
 obtain⟨l,e⟩:=j;have bp:(G.back w.heap.size own0 bQ L B).own g=none:=by
  show(if g<w.heap.size/\own0 g=none then G.own g else match bQ g with|none=>none|some _=>Dl L B g)=none;by_cases c:g<w.heap.size/\own0 g=none
  .rw[ag c];rcases e with ⟨_,b|b⟩|⟨_,b⟩
   .exact b
   .rw[c.2]at b;cases b
   .exact b.1
  .rw[af c,l]
 refine⟨bp,?_⟩;rcases e with ⟨b,_⟩|⟨b,m⟩
 .exact .inl b
 .rcases m.2 with d|d
  .exact .inl d
  .exact .inr ⟨b,d.2⟩
def Pz (h:Inv w0 G st a w){own0:Nat->Option Nat}(e:∀g b,own0 g=some b->(G.own g).isSome=true) :
  Handed w (fun g=>w0.w.heap.size<=g\/w0.fr g) (RO G false) (fun g=>G.nw g/\(G.own g=none\/(own0 g).isSome=true)) own0 where
 lZ g c:=by
  refine⟨h.axP c,.inl ?_⟩;cases d:G.own g with
  |none=>rfl|some k=>have:=(h.own g k d).2.1;omega
 bp g b f:=by obtain⟨k,i⟩:=lX.1 (e g b f);obtain⟨j,l,_⟩:=h.own g k i;exact⟨⟨h.Vz i,.inr (by rw[f];rfl)⟩,l,j⟩
 df g c:=by
  cases d:own0 g with
  |none=>rfl
  |some b =>
   have:=e g b d;rw[c.1]at this;cases this
def aAX {ok:Nat->Prop}{p:Ty×Bool}(c:p.2=true){x:Args [p]}{cs:Array Value}(h:ed w ok [p] x [.agg cs]):Rd w ok p.1 x.1 cs.toList:=by obtain⟨v,i,d,⟨e,f,b⟩,_⟩:=h;rw[c]at b;have:v=.agg cs:=(tL d).1.symm;rw[this]at b;have g:cs=e.toArray:=Value.agg.inj b;rw[g];exact f
def VM {G:Gh}{bx:List (Nat×List AC)}{bl:List (Nat×Option fN)}{L:List (Nat×fN×Value)}(h:∀c v,tw L c v->bC G w bx bl c v){c:CV}{v:Value}(b:axW L c v):eF G w bx bl c v:=by
 cases c with
 |c x=>exact h x v b
 |agg l =>
  obtain⟨cs,d,e⟩:=b;exact⟨cs,d,e.imp h⟩
def aIv (h:Inv w0 G st a w){con:Pr}{ok:Nat->Prop}{w':World}{g0:Nat}{u:Value}{y:Args con.rs×Args con.qs}{us:List Value}(df:∀g,ok g->RO G false g)
  {t:Bool} (x:rdM con.m=some t) (n:anu con w w' ok (fun g=>G.nw g/\(G.own g=none\/(none:Option Nat).isSome=true)) (fun _=>none) g0 u y us) (N:eY (fun g=>(none:Option Nat).isSome=true) w w') {d:Tmp}
  (p:auY t con.rs st d y.1 k=some r) (O:rL w0 k r K):K (a.put (some d) (fp us)) w':=by
 obtain⟨bQ,lZ,_,n⟩:=n;have n:∃b cs e,us=[.pointer (some ⟨b,0,none⟩)]/\w.heap.size<=b/\(bQ b).isSome=true/\w'.heap[b]?=some (.cells cs e (0,0)) /\
   ed w' (fun g=>bQ g=none/\((G.nw g/\(G.own g=none\/(none:Option Nat).isSome=true))\/(t=false/\ok g))) con.rs y.1 [.agg cs]:=by
  unfold rdM at x;split at x
  .rename_i q;cases x;rw[q]at n;obtain⟨b,cs,e,B,A,C,q,D⟩:=n;exact⟨b,cs,e,B,A,C,q,kt (fun g c=>⟨c.1,.inl c.2⟩) D⟩
  .rename_i q;cases x;rw[q]at n;obtain⟨b,cs,e,B,A,C,q,D⟩:=n;exact⟨b,cs,e,B,A,C,q,kt (fun g c=>⟨c.1,c.2.imp_right fun h=>⟨rfl,h⟩⟩) D⟩
  .cases x
 obtain⟨b,cs,e,rfl,qe,R,S,T⟩:=n;obtain⟨qf,i,pm,rs,m,qg,g⟩:=con;dsimp only at *;unfold auY at p;split at p
 .rename_i E qh;split at p
  .rename_i W;obtain⟨F,p⟩:=aX p;rw[aG]at F;have X:=aAX F.2 T;have Y:anx w w' G st (fun _=>none) bQ (fun f g=>bQ g=none/\((G.nw g/\(G.own g=none\/(none:Option Nat).isSome=true))\/(f=false/\RO G false g))) [] (some (d,b,ex t E.1 y.1.1))
     ((d,ex t E.1 y.1.1)::st.bx) st.bl:=by
    refine⟨N,fun g M c=>(by cases c),fun g M c=>(by cases c),lZ,fun f g c=>Ka h (fun g M c=>by cases c) [] _ f g c,fun z j=>(by simp at j),fun z j=>(by simp at j),fun z j=>(by simp at j),fun z j=>(by simp at j),
     fun i b Z=>.inr ⟨fun z j=>(by simp at j),Z,fun _ _=>rfl⟩,fun i qd=>qd,fun z j=>(by simp at j),fun H l s=>?_,fun H s=>wS _ trivial s,fun H g l I=>?_⟩
    .rw[au]at s;by_cases L:d=H
     .subst L;rw[ag rfl]at s;cases s;exact .inl ⟨b,rfl⟩
     .rw[af L]at s;exact .inr ⟨fun qi g qj I=>(by cases I;exact L),s,rfl⟩
    .cases I;refine⟨by simp[au],.inl W,⟨R,fun z j=>(by simp at j)⟩,cs,e,t,E.1,y.1.1,S,rfl,iN (fun g c=>⟨c.1,c.2.imp_right fun h=>⟨h.1,df g h.2⟩⟩) X⟩
   obtain⟨hinv,_⟩:=h.back Y;have A:=hinv.put d (gO F.1) (v:=.v (.c (.ptr d 0))) (u:=.pointer (some ⟨b,0,none⟩)) ⟨by simp[au],by simp[Gh.back]⟩;exact O _ _ _ _ A p
  .cases p
 .cases p
def abR {id:Nat}:∀{l:List AC} {k:Nat},id ∉ iO l->VK l id k=none
 |[],_,_=>rfl|c::l,k,h=>by
  cases c with
  |own i len =>
   have b:i≠id:=fun e=>h (by simp[iO,e])
   have d:id ∉ iO l:=fun f=>h (by simp[iO,f])
   simp[VK,b,abR d]
  |_=>exact abR (l:=l) h
def YB {all:List AC}{g j:Nat}(h:cg G all g=some j):(G.own g).isSome=true:=by
 unfold cg at h;split at h
 .rename_i id hid;rw[hid];rfl
 .cases h
def aGk {all:List AC}{g j:Nat}(h:cg G all g=some j):G.own g≠some .hid:=by
 unfold cg at h;split at h
 .rename_i id hid;rw[hid];simp
 .cases h
def ZT (h:Inv w0 G st a w){ok:Nat->Prop}{w':World}{rs:List (Ty×Bool)}{m:Nat}{y:Args rs}{us:List Value}(df:∀g,ok g->RO G false g){all:List AC}{bQ:Nat->Option Nat}
  (lZ:∀g C,bQ g=some C->w.heap.size<=g\/(cg G all g).isSome=true) (Z:eE rs=true)
  (qd:pe w' (fun g=>bQ g=none/\((G.nw g/\(G.own g=none\/(cg G all g).isSome=true))\/(m2 m=false/\ok g))) bQ rs y 0 us) (qe:eY (fun g=>(cg G all g).isSome=true) w w') {d:Tmp}
  (qf:fW (lP d (m2 m) rs y 0).2 st=true) {bl3:List (Nat×Option fN)} {L2:List (Nat×Nat×fN×Value)}
  (qg:∀i b,look bl3 i=some (some b)->(∃z∈L2,z.2.1=i/\z.2.2.1=b)\/((∀z∈L2,z.2.1≠i)/\i ∉ iO all/\look st.bl i=some (some b))) (qh:∀i,(look st.bl i).isSome=true->(look bl3 i).isSome=true)
  (qi:∀z∈L2,(look bl3 z.2.1).isSome=true) (qj:∀z∈L2,∀B∈L2,z.2.1=B.2.1->z=B)
  (E:∀z∈L2,nOf rs<=z.1/\avl w' (fun g=>bQ g=none/\((G.nw g/\(G.own g=none\/(cg G all g).isSome=true))\/(m2 m=false/\ok g))) (m2 m) bQ G st z) (qk:∀z∈L2,∀B∈L2,z.1=B.1->z=B) :
  ∃Y,Inv w0 Y {st with bl:=(lP d (m2 m) rs y 0).2++bl3} a w'/\ch (eF Y w' st.bx ((lP d (m2 m) rs y 0).2++bl3)) (lP d (m2 m) rs y 0).1 us:=by
 obtain⟨L,M,ql⟩:=adL (id:=d) (f:=m2 m) Z qd;have N:=M.q;have R:∀z∈L,look st.bl z.1=none:=fun z j=>Dj qf z.1 (by rw[N];exact kJ j)
 have F:∀z,z∈L++L2.map (·.2)->z∈L\/∃p,(p,z)∈L2:=by
  intro z j;rcases gK.1 j with j|j
  .exact .inl j
  .obtain⟨q,N,rfl⟩:=E2.1 j;exact .inr ⟨q.1,N⟩
 have S:∀z∈L,∀g,z.2.2.ownBlock=some g->∃C,bQ g=some C/\C<nOf rs/\z.1=d*64+C:=by intro z j g n;obtain⟨A,t,s⟩:=M.rows z j;exact⟨_,s.rI g n,by omega,by omega⟩
 have qm:anx w w' G st (cg G all) bQ (fun f g=>bQ g=none/\((G.nw g/\(G.own g=none\/(cg G all g).isSome=true))\/(f=false/\RO G false g))) (L++L2.map (·.2)) none st.bx ((lP d (m2 m) rs y 0).2++bl3):=by
  refine⟨qe,fun g C n=>YB n,fun g C n=>aGk n,lZ,fun f g n=>Ka h (fun g C n=>YB n) _ _ f g n,fun z j=>?_,fun z j B u g n T=>?_,fun z j B u H=>?_,fun z j=>?_,fun i b O=>?_,fun i qn=>?_,fun z j=>?_,fun W l D=>?_,
   fun W qo=>qo,fun W g l H=>by cases H⟩
  .rcases F z j with j|⟨p,j⟩
   .obtain⟨A,t,s⟩:=M.rows z j;obtain⟨rows,I,X⟩:=s.row;refine⟨s.wr,s.pos,⟨rows,I,agE (fun qp g n=>⟨n.1,?_⟩) X⟩,fun g n=>by rw[s.rI g n];rfl⟩;rw[s.nf,qp,am7];exact n.2.imp_right fun h=>⟨h.1,df g h.2⟩
   .obtain⟨A,s⟩:=E _ j;obtain⟨rows,I,X⟩:=s.row;refine⟨s.wr,s.pos,⟨rows,I,l0 (fun g n=>⟨n.1,?_⟩) X⟩,fun g n=>by rw[s.rI g n];rfl⟩;rw[show z.2.1.f=m2 m from s.nf];exact n.2.imp_right fun h=>⟨h.1,df g h.2⟩
  .rcases F z j with j|⟨p,j⟩<;>rcases F B u with u|⟨qq,u⟩
   .obtain⟨C,A,_,t⟩:=S z j g n;obtain⟨qw,s,_,I⟩:=S B u g T;rw[A]at s;cases s;exact M.uniq z j B u (by omega)
   .obtain⟨C,A,t,_⟩:=S z j g n;obtain⟨s,I⟩:=E _ u;have:=I.rI g T;rw[A]at this;cases this;dsimp only at s;omega
   .obtain⟨C,A,t,_⟩:=S B u g T;obtain⟨s,I⟩:=E _ j;have:=I.rI g n;rw[A]at this;cases this;dsimp only at s;omega
   .have A:=(E _ j).2.rI g n;have t:=(E _ u).2.rI g T;rw[A]at t;have:=qk _ j _ u (eT t);exact oh (·.2) this
  .rcases F z j with j|⟨p,j⟩<;>rcases F B u with u|⟨qq,u⟩
   .exact M.uniq z j B u H
   .obtain⟨b,A,_⟩:=(E _ u).2.old;have t:=R z j;rw[H]at t;rw[show look st.bl B.1=_ from A]at t;cases t
   .obtain⟨b,A,_⟩:=(E _ j).2.old;have t:=R B u;rw[<-H]at t;rw[show look st.bl z.1=_ from A]at t;cases t
   .exact oh (·.2) (qj _ j _ u H)
  .rcases F z j with j|⟨p,j⟩
   .exact .inl (R z j)
   .exact .inr ⟨(E _ j).2.hv,(E _ j).2.old⟩
  .rw[dt]at O;cases D:look (lP d (m2 m) rs y 0).2 i with
   |some x =>
    rw[D]at O;cases O;rw[N]at D;obtain⟨v,qt⟩:=adM D;exact .inl ⟨v,by simp[qt]⟩
   |none =>
    rw[D]at O;rcases qg i b O with ⟨z,j,rfl,rfl⟩|⟨A,t,s⟩
    .exact .inl ⟨z.2.2.2,aAy _ (E2.2 ⟨z,j,rfl⟩)⟩
    .refine .inr ⟨fun z j=>?_,s,fun g n=>?_⟩
     .rcases F z j with j|⟨p,j⟩
      .rintro rfl;rw[R z j]at s;cases s
      .exact A _ j
     .unfold cg;rw[n];exact abR t
  .rw[dt];cases D:look (lP d (m2 m) rs y 0).2 i with
   |some x=>rfl|none=>exact qh i qn
  .rcases F z j with j|⟨p,j⟩
   .rw[dt,N];have:=kJ j;cases D:look (L.map fun z=>(z.1,some z.2.1)) z.1 with
    |some x=>rfl|none=>rw[D]at this;cases this
   .rw[dt];cases D:look (lP d (m2 m) rs y 0).2 z.1 with
    |some x=>rfl|none=>exact qi _ j
  .refine .inr ⟨fun qx g qy H=>(by cases H),D,?_⟩;obtain⟨cs,e,_,t,_⟩:=h.bx W l D;unfold cg;rw[t]
 obtain⟨hinv,qu⟩:=h.back qm;have hrel:=ql.imp fun c v qv=>VM qu (axW.J3 (L':=L++L2.map (·.2)) (fun z j=>by simp[j]) qv)
 exact⟨_,hinv,hrel⟩
def anA (h:Inv w0 G st a w){ok:Nat->Prop}{w':World}{rs:List (Ty×Bool)}{m:Nat}{y:Args rs}{us:List Value}(df:∀g,ok g->RO G false g){all:List AC}{bQ:Nat->Option Nat}
  (lZ:∀g e,bQ g=some e->w.heap.size<=g\/(cg G all g).isSome=true) (f:eE rs=true)
  (j:pe w' (fun g=>bQ g=none/\((G.nw g/\(G.own g=none\/(cg G all g).isSome=true))\/(m2 m=false/\ok g))) bQ rs y 0 us) (l:eY (fun g=>(cg G all g).isSome=true) w w') {d:Tmp}
  (n:Nat.blt d st.nt=true) (p:fW (lP d (m2 m) rs y 0).2 st=true) {bl3:List (Nat×Option fN)} {L2:List (Nat×Nat×fN×Value)}
  (q:∀i b,look bl3 i=some (some b)->(∃z∈L2,z.2.1=i/\z.2.2.1=b)\/((∀z∈L2,z.2.1≠i)/\i ∉ iO all/\look st.bl i=some (some b))) (s:∀i,(look st.bl i).isSome=true->(look bl3 i).isSome=true)
  (t:∀z∈L2,(look bl3 z.2.1).isSome=true) (u:∀z∈L2,∀c∈L2,z.2.1=c.2.1->z=c)
  (v:∀z∈L2,nOf rs<=z.1/\avl w' (fun g=>bQ g=none/\((G.nw g/\(G.own g=none\/(cg G all g).isSome=true))\/(m2 m=false/\ok g))) (m2 m) bQ G st z) (x:∀z∈L2,∀c∈L2,z.1=c.1->z=c)
  (A:k {(st.put d (J0 (lP d (m2 m) rs y 0).1)) with bl:=(lP d (m2 m) rs y 0).2++bl3}=some r) (B:rL w0 k r K):K (a.put (some d) (fp us)) w':=by
 obtain⟨D,hinv,hrel⟩:=ZT h df lZ f j l p q s t u v x;have C:=hinv.put d (gO n) (ye (R:=fun _ _=>True) hrel);exact B _ _ _ _ C A
def aEF {L:List (Nat×Nat×fN×Value)}{i:Nat}:∀{x:Option fN},look (L.map fun z=>(z.2.1,some z.2.2.1)) i=some x->∃z∈L,z.2.1=i/\x=some z.2.2.1:=by
 induction L with
 |nil=>intro x h;simp[look]at h
 |cons z L c =>
  intro x h;rw[tf,au]at h;by_cases b:z.2.1=i
  .rw[ag b]at h;exact⟨z,by simp,b,(eT h).symm⟩
  .rw[af b]at h;obtain⟨y,d,e⟩:=c h;exact⟨y,by simp[d],e⟩
def VN {L:List (Nat×Nat×fN×Value)}{i:Nat}(h:look (L.map fun z=>(z.2.1,some z.2.2.1)) i=none):∀z∈L,z.2.1≠i:=by
 induction L with
 |nil=>intro z b;simp at b
 |cons y L d =>
  rw[tf,au]at h;by_cases c:y.2.1=i
  .rw[ag c]at h;cases h
  .rw[af c]at h;intro z b;rcases cT.1 b with rfl|b
   .exact c
   .exact d h z b
def aEG {bx:List (Nat×List AC)}{bl:List (Nat×Option fN)}{p:Ty×Bool}{c:CV}{u:Value}{f:p.1.D}(g:eF G w bx bl c u)(hi:imV st p c=some f) :
  ∃d,im st p.1 c.cells=some (f,[])/\ch (bC G w bx bl) c.cells d/\u=(match p.2 with|true=>.agg d.toArray|false=>d.headD undef)/\(p.2=false->d.length=1):=by
 obtain⟨t,b⟩:=p;cases c with
 |agg l =>
  cases b with
  |false=>simp[imV]at hi
  |true =>
   simp only[imV]at hi;split at hi
   .rename_i z e;cases hi;obtain⟨d,h,hrel⟩:=g;exact⟨d.toList,e,hrel,by rw[h,x6],fun i=>by cases i⟩
   .cases hi
 |c x =>
  cases b with
  |true=>simp[imV]at hi
  |false =>
   simp only[imV]at hi;split at hi
   .rename_i z e;cases hi;exact⟨[u],e,⟨g,trivial⟩,rfl,fun _=>rfl⟩
   .cases hi
def Mp (c:CV):aV [c]=c.cells:=by simp[aV]
def axY (h:Inv w0 G st a w){ok:Nat->Prop}{w':World}{rs:List (Ty×Bool)}{m:Nat}{q:Ty×Bool}{y:Args rs}{y2:q.1.D}{us:List Value}{u:Value}(df:∀g,ok g->RO G false g){c:CV}{f:Bool}{bQ:Nat->Option Nat}
  (Z:eF G w st.bx st.bl c u) {qd:q.1.D} (qe:imV st q c=some qd) (qf:gM st (pmM f) [] c.cells=true)
  (lZ:∀g qg,bQ g=some qg->w.heap.size<=g\/(cg G (aV [c]) g).isSome=true)
  (qh:pe w' (fun g=>bQ g=none/\((G.nw g/\(G.own g=none\/(cg G (aV [c]) g).isSome=true))\/(m2 m=false/\ok g))) bQ [q] (y2,()) (nOf rs) [u])
  (qi:pe w' (fun g=>bQ g=none/\((G.nw g/\(G.own g=none\/(cg G (aV [c]) g).isSome=true))\/(m2 m=false/\ok g))) bQ rs y 0 us)
  (qj:eY (fun g=>(cg G (aV [c]) g).isSome=true) w w') (qk:eE rs=true) {d:Tmp} (ql:fW (lP d (m2 m) rs y 0).2 st=true) :
  ∃N,Inv w0 N {st with bl:=(lP d (m2 m) rs y 0).2++((tu (m2 m) q.1 y2 c.cells).1++st.bl)} a w'/\ch (eF N w' st.bx ((lP d (m2 m) rs y 0).2++((tu (m2 m) q.1 y2 c.cells).1++st.bl))) (lP d (m2 m) rs y 0).1 us:=by
 have O:=YA (st:=st) (m:=pmM f) (by cases f<;>simp[pmM]) qf;have qm:=Mp c;obtain⟨v,qB,C,⟨cs,hfr,j⟩,_⟩:=qh;have qn:v=u:=(tL C).1.symm;subst qn;obtain⟨R,S,hrel,p,hlen⟩:=aEG Z qe;have qo:R=cs++[]:=by
  rw[fh];cases H:q.2 with
  |true =>
   rw[H]at p j;rw[p]at j;have:=Value.agg.inj j;simpa using oh Array.toList this
  |false =>
   rw[H]at p j;have h1:=hlen H;have s:cs.length=1:=by have qp:=FrC.len hfr;obtain⟨qC,qq,B,qt,qu,_⟩:=Pv (ok:=fun _=>True) (aIu h) hrel S;have qv:=qt.len;have qw:=ch.len qu;have:qq=[]:=ZL qw.symm;subst this;rw[fh]at B;subst B;rw[qp,<-qv];exact h1
   match R,cs,h1,s,p,j with
   |[T],[W],_,_,p,j =>
    have:T=W:=by have qx:v=T:=p;have t:v=W:=j;rw[<-qx,<-t]
    rw[this]
 obtain⟨qD,L,A,_,_,t,I,M,X⟩:=agI (f:=m2 m) S hrel O.2.2 hfr qo;rw[fh]at A;have qy:∀z∈L,∀D∈L,z.2.1=D.2.1->z=D:=by
  have E:(L.map (·.2.1)).Nodup:=by rw[I,<-A];exact O.1
  intro z e D qz C;clear t I M X
  induction L with
  |nil=>simp at e
  |cons q L qA =>
   rw[tf,auV]at E;rcases cT.1 e with A|h1<;>rcases cT.1 qz with B|s
   .rw[A,B]
   .exact absurd (E2.2 ⟨D,s,by rw[<-C,A]⟩) E.1
   .exact absurd (E2.2 ⟨z,h1,by rw[C,B]⟩) E.1
   .exact qA E.2 h1 s
 refine ZT h df lZ qk qi qj ql (L2:=L) (bl3:=(tu (m2 m) q.1 y2 c.cells).1++st.bl) (fun i b l=>?_) (fun i F=>?_) (fun z e=>?_) qy (fun z e=>⟨(M z e).1,(M z e).2.2⟩) X
 .rw[t,dt]at l;cases n:look (L.map fun z=>(z.2.1,some z.2.2.1)) i with
  |some x =>
   rw[n]at l;dsimp only at l;obtain⟨z,e,h1,s⟩:=aEF n;rw[s]at l;exact .inl ⟨z,e,h1,eT (eT l)⟩
  |none =>
   rw[n]at l;have Y:=VN n;refine .inr ⟨Y,fun F=>?_,l⟩;rw[qm,A,<-I]at F;obtain⟨z,e,rfl⟩:=E2.1 F;exact Y z e rfl
 .rw[t,dt];cases n:look (L.map fun z=>(z.2.1,some z.2.2.1)) i with
  |some x=>rfl|none=>exact F
 .rw[t,dt];cases n:look (L.map fun z=>(z.2.1,some z.2.2.1)) z.2.1 with
  |some x=>rfl|none=>exact absurd rfl (VN n z e)
def ath (h:Inv w0 G st a w){con:Pr}{f:Bool}(I:con.pm=.own f){ok:Nat->Prop}{w':World}{g0:Nat}{u:Value}{y:Args con.rs×Args con.qs}{us:List Value}(df:∀g,ok g->RO G false g){c:CV}
  (L:eF G w st.bx st.bl c u) {p:Ty×Bool} (M:nv con.ps con.i=some p) (N:aED con) {O:p.1.D} (S:imV st p c=some O) (t:gM st (pmM f) [] c.cells=true)
  (n:anu con w w' ok (fun g=>G.nw g/\(G.own g=none\/(cg G (aV [c]) g).isSome=true)) (cg G (aV [c])) g0 u y us) (v:eY (fun g=>(cg G (aV [c]) g).isSome=true) w w') {d:Tmp}
  (j:adv con.rs con.qs con.m st c d y k=some r) (x:rL w0 k r K):K (a.put (some d) (fp us)) w':=by
 obtain⟨bQ,lZ,A,n⟩:=n;rw[I]at A;obtain⟨qe,i,pm,rs,m,qf,g⟩:=con;dsimp only at *;unfold adv at j;obtain⟨B,j⟩:=aX j;simp only[aG,kj]at B;obtain⟨⟨⟨T,C⟩,D⟩,E⟩:=B;have W:m=2\/m=3:=T.imp aO aO;have F:pe w' (fun g=>bQ g=none/\((G.nw g/\(G.own g=none\/(cg G (aV [c]) g).isSome=true))\/(m2 m=false/\ok g))) bQ rs y.1 0 us:=by rcases W with rfl|rfl<;>exact n
 have qg:=YA (st:=st) (m:=pmM f) (by cases f<;>simp[pmM]) t;have X:=Mp c;split at j
 ·
  refine anA h df lZ E F v D C (L2:=[]) (bl3:=(st.gone c.cells).bl) (fun i b l=>.inr ?_) (fun i Y=>?_) (fun z e=>by simp at e) (fun z e=>by simp at e) (fun z e=>by simp at e) (fun z e=>by simp at e) j x
  .rw[agH]at l;split at l
   .cases l
   .exact⟨fun z e=>by simp at e,by rw[X];assumption,l⟩
  .rw[agH];split
   .rfl
   .exact Y
 ·
  rename_i q y qh;have Z:q=p:=by
   rcases N with s|⟨qi,s,H⟩
   .cases s
   .cases s;rw[M]at H;exact(eT H).symm
  subst Z;obtain⟨qj,hinv,hrel⟩:=axY (q:=q) (y2:=y.2.1) h df L S t lZ A F v E C;have qd:=hinv.put d (gO D) (ye (R:=fun _ _=>True) hrel);exact x _ _ _ _ qd j
 .cases j
def cG (g0:Nat)(g:Nat):Option Nat:=if g=g0 then some 0 else none
def p4 {g0 g:Nat}(h:g≠g0):cG g0 g=none:=by simp[cG,h]
def rN (h:Inv w0 G st a w){b:Nat}{O:List AC}(qf:look st.bx b=some O){w':World}{bQ:Nat->Option Nat}
  (lZ:∀g m,bQ g=some m->w.heap.size<=g\/(cG (G.hb b) g).isSome=true) (qg:eY (fun g=>(cG (G.hb b) g).isSome=true) w w') {p:Ty×Bool} {z:p.1.D} {cs:Array Value} {e:TypeId} {n:Nat}
  (qh:∃m,bQ (G.hb b)=some m/\n<=m) (qi:w'.heap[G.hb b]?=some (.cells cs e (0,0)))
  {R S:Nat->Prop} {fb f:Bool} (qj:∀g,R g->(G.nw g/\(G.own g=none\/(cG (G.hb b) g).isSome=true))\/(fb=false/\RO G false g))
  (qk:∀g,S g->(G.nw g/\(G.own g=none\/(cG (G.hb b) g).isSome=true))\/(f=false/\RO G false g))
  (ql:Rd w' (fun g=>bQ g=none/\R g) p.1 z cs.toList) {q:List (Nat×Option fN)} {B:List (Nat×fN×Value)} {d:Nat}
  (F:Fr w' (fun g=>bQ g=none/\S g) f bQ d 0 (0+n) q B) (qm:fW q st=true) :
  Inv w0 (G.back w.heap.size (cG (G.hb b)) bQ B (some (b,G.hb b,ex fb p.1 z))) {st with bx:=(b,ex fb p.1 z)::st.bx,bl:=q++st.bl} a w' /\
   ∀c v,tw B c v->bC (G.back w.heap.size (cG (G.hb b)) bQ B (some (b,G.hb b,ex fb p.1 z))) w' ((b,ex fb p.1 z)::st.bx) (q++st.bl) c v:=by
 obtain⟨qy,qz,_,bp,_⟩:=h.bx b O qf;have L:=F.q;have T:∀g m,cG (G.hb b) g=some m->(G.own g).isSome=true:=by
  intro g m j;unfold cG at j;split at j
  .rename_i A;rw[A,bp];rfl
  .cases j
 have qn:∀g m,cG (G.hb b) g=some m->G.own g≠some .hid:=by
  intro g m j;unfold cG at j;split at j
  .rename_i A;rw[A,bp];simp
  .cases j
 have W:∀z∈B,look st.bl z.1=none:=fun z M=>Dj qm z.1 (by rw[L];exact kJ M)
 have N:∀z∈B,∀g,z.2.2.ownBlock=some g->∃m,bQ g=some m/\m<n/\z.1=d*64+m:=by intro z M g j;obtain⟨C,D,u⟩:=F.rows z M;exact⟨_,u.rI g j,by omega,by omega⟩
 refine h.back (okE:=fun f g=>bQ g=none/\((G.nw g/\(G.own g=none\/(cG (G.hb b) g).isSome=true))\/(f=false/\RO G false g))) ⟨qg,T,qn,lZ,fun f g j=>Ka h T _ _ f g j,fun y t=>?_,fun y t X Y g j qo=>?_,F.uniq,
  fun y t=>.inl (W y t),fun i qp E=>?_,fun i qq=>?_,fun y t=>?_,fun H l s=>?_,fun H qt=>wS _ trivial qt,fun H g l A=>?_⟩
 .obtain⟨C,D,u⟩:=F.rows y t;obtain⟨rows,Z,qu⟩:=u.row;refine⟨u.wr,u.pos,⟨rows,Z,agE (fun qv g j=>⟨j.1,?_⟩) qu⟩,fun g j=>by rw[u.rI g j];rfl⟩;rw[u.nf,qv,am7];exact qk g j.2
 .obtain⟨m,C,_,D⟩:=N y t g j;obtain⟨qw,u,_,Z⟩:=N X Y g qo;rw[C]at u;cases u;exact F.uniq y t X Y (by omega)
 .rw[dt]at E;cases s:look q i with
  |some x =>
   rw[s]at E;cases E;rw[L]at s;obtain⟨v,qx⟩:=adM s;exact .inl ⟨v,qx⟩
  |none =>
   rw[s]at E;refine .inr ⟨fun y t=>?_,E,fun g j=>?_⟩
   .rintro rfl;have qd:look st.bl y.1=some (some qp):=E;rw[W y t]at qd;cases qd
   .refine p4 ?_;rintro rfl;rw[bp]at j;cases j
 .rw[dt];cases s:look q i with
  |some x=>rfl|none=>exact qq
 .rw[dt,L];have:=kJ t;cases s:look (B.map fun z=>(z.1,some z.2.1)) y.1 with
  |some x=>rfl|none=>rw[s]at this;cases this
 .rw[au]at s;by_cases I:b=H
  .subst I;rw[ag rfl]at s;cases s;exact .inl ⟨_,rfl⟩
  .rw[af I]at s;refine .inr ⟨fun qA g qB A=>(by cases A;exact I),s,?_⟩;obtain⟨cs,e,_,D,_⟩:=h.bx H l s;refine p4 ?_;intro A;rw[A,bp]at D;cases D;exact I rfl
 .cases A;obtain⟨m,qe,qC⟩:=qh;refine⟨by simp[au],.inr rfl,⟨by rw[qe];rfl,fun y t j=>?_⟩,cs,e,fb,p.1,z,qi,rfl,iN (fun g j=>⟨j.1,qj g j.2⟩) ql⟩;obtain⟨qw,C,D,_⟩:=N y t _ j;rw[qe]at C;cases C;omega
def aGl (h:Inv w0 G st a w){con:Pr}(N:con.pm=.box){ok:Nat->Prop}{w':World}{u:Value}{y:Args con.rs×Args con.qs}{us:List Value}(df:∀g,ok g->RO G false g){b qj:Nat}{A:List AC}(t:look st.bx b=some A)
  {p:Ty×Bool} (O:nv con.ps con.i=some p) (S:p.2=true) (T:aED con)
  (x:anu con w w' ok (fun g=>G.nw g/\(G.own g=none\/(cG (G.hb b) g).isSome=true)) (cG (G.hb b)) (G.hb b) u y us) (B:eY (fun g=>(cG (G.hb b) g).isSome=true) w w') {d:Tmp}
  (l:amy con.rs con.qs con.m st (.c (.ptr b qj)) d y k=some r) (C:rL w0 k r K):K (a.put (some d) (fp us)) w':=by
 obtain⟨bQ,lZ,I,x⟩:=x;rw[N]at I;obtain⟨D,cs,e,E,W⟩:=I;obtain⟨qk,i,pm,rs,m,ql,g⟩:=con;dsimp only at *;unfold amy at l;split at l
 .rename_i _ q y qm qn F;cases F;have X:q=p:=by
   rcases T with s|⟨qo,s,M⟩
   .cases s
   .cases s;rw[O]at M;exact(eT M).symm
  subst X;have H:=aAX S W;have nil:Fr w' (fun g=>bQ g=none/\((G.nw g/\(G.own g=none\/(cG (G.hb b) g).isSome=true))\/(false=false/\ok g))) false bQ d 0 (0+nOf rs) [] []:=Fr.nil;split at l
  .obtain⟨n,l⟩:=aX l;rw[aG]at n;obtain⟨hinv,_⟩:=rN (fb:=false) (f:=false) h t lZ B D E (fun g j=>j.imp_right fun h=>⟨rfl,df g h⟩) (fun g j=>j.imp_right fun h=>⟨h.1,df g h.2⟩) H nil rfl;have hrel:=Dk (f:=false) (bx:=(b,ex false q.1 y.2.1)::st.bx) (bl:=[]++st.bl) n.2 (kt (fun g j=>Ka (bQ:=bQ) h (own0:=cG (G.hb b)) (fun g Y j=>by
    obtain⟨_,_,_,bp,_⟩:=h.bx b A t;unfold cG at j;split at j
    .rename_i s;rw[s,bp];rfl
    .cases j) [] (some (b,G.hb b,ex false q.1 y.2.1)) false g ⟨j.1,j.2.imp_right fun h=>⟨rfl,df g h⟩⟩) x)
   have z:=hinv.put d (gO n.1) (ye (R:=fun _ _=>True) hrel);exact C _ _ _ _ z l
  .obtain⟨n,l⟩:=aX l;rw[aG]at n;obtain⟨hinv,_⟩:=rN (fb:=false) (f:=false) h t lZ B D E (fun g j=>j.imp_right fun h=>⟨rfl,df g h⟩) (fun g j=>j.imp_right fun h=>⟨h.1,df g h.2⟩) H nil rfl;have hrel:=Dk (f:=true) (bx:=(b,ex false q.1 y.2.1)::st.bx) (bl:=[]++st.bl) n.2 (kt (fun g j=>Ka (bQ:=bQ) h (own0:=cG (G.hb b)) (fun g Y j=>by
    obtain⟨_,_,_,bp,_⟩:=h.bx b A t;unfold cG at j;split at j
    .rename_i s;rw[s,bp];rfl
    .cases j) [] (some (b,G.hb b,ex false q.1 y.2.1)) true g ⟨j.1,.inl j.2⟩) x)
   have z:=hinv.put d (gO n.1) (ye (R:=fun _ _=>True) hrel);exact C _ _ _ _ z l
  .obtain⟨n,l⟩:=aX l;simp only[aG,kj]at n;obtain⟨⟨⟨Z,qd⟩,qe⟩,qf⟩:=n;have qg:pe w' (fun g=>bQ g=none/\((G.nw g/\(G.own g=none\/(cG (G.hb b) g).isSome=true))\/(m2 m=false/\ok g))) bQ rs y.1 0 us:=by rcases Z.imp aO aO with rfl|rfl<;>exact x
   obtain⟨L,qh,F⟩:=adL (id:=d) (f:=m2 m) qf qg;obtain⟨hinv,qi⟩:=rN (fb:=false) h t lZ B D E (fun g j=>j.imp_right fun h=>⟨rfl,df g h⟩) (fun g j=>j.imp_right fun h=>⟨h.1,df g h.2⟩) H qh qd;have hrel:=F.imp fun c v n=>VM qi n
   have z:=hinv.put d (gO qe) (ye (R:=fun _ _=>True) hrel);exact C _ _ _ _ z l
 .cases l
def nwC (G:Gh)(c:Bool)(b g:Nat):Prop:=(G.nw g/\(G.own g=none\/(cG (G.hb b) g).isSome=true))\/(c=false/\RO G false g)
def aGm (h:Inv w0 G st a w){con:Pr}(W:con.pm=.cur){ok:Nat->Prop}{w':World}{u:Value}{y:Args con.rs×Args con.qs}{us:List Value}(df:con.m=1\/con.m=2\/∀g,ok g->RO G false g){b qn:Nat}{B:List AC}(x:look st.bx b=some B)
  {p:Ty×Bool} (X:nv con.ps con.i=some p) (Y:p.2=true) (Z:aED con)
  (t:anu con w w' ok (nwC G (cj B) b) (cG (G.hb b)) (G.hb b) u y us) (D:eY (fun g=>(cG (G.hb b) g).isSome=true) w w') {d:Tmp}
  (n:amz con.rs con.qs con.m st (.c (.ptr b qn)) d y k=some r) (E:rL w0 k r K):K (a.put (some d) (fp us)) w':=by
 obtain⟨bQ,lZ,M,t⟩:=t;rw[W]at M;obtain⟨F,cs,e,H,N⟩:=M;obtain⟨qo,i,pm,rs,m,qp,g⟩:=con;dsimp only at *;have O:∀g S,cG (G.hb b) g=some S->(G.own g).isSome=true:=by
  intro g S j;obtain⟨_,_,_,bp,_⟩:=h.bx b B x;unfold cG at j;split at j
  .rename_i z;rw[z,bp];rfl
  .cases j
 unfold amz at n;split at n
 .rename_i _ q y qq qt I;cases I;have qd:q=p:=by
   rcases Z with z|⟨qu,z,T⟩
   .cases z
   .cases z;rw[X]at T;exact(eT T).symm
  subst qd;have C:=aAX Y N;rw[x]at n;dsimp only at n;generalize cj B=l at n C t N;have nil:Fr w' (fun g=>bQ g=none/\(nwC G l b g)) l bQ d 0 (0+nOf rs) [] []:=Fr.nil;split at n
  .obtain⟨s,n⟩:=aX n;rw[aG]at s;obtain⟨hinv,_⟩:=rN (fb:=l) (f:=l) h x lZ D F H (fun g j=>j) (fun g j=>j) C nil rfl;have qe:∀g,ok g->RO G false g:=by
    rcases df with h1|h1|h1
    .cases h1
    .cases h1
    .exact h1
   have hrel:=Dk (f:=false) (bx:=(b,ex l q.1 y.2.1)::st.bx) (bl:=[]++st.bl) s.2 (kt (fun g j=>Ka (bQ:=bQ) h (own0:=cG (G.hb b)) O [] (some (b,G.hb b,ex l q.1 y.2.1)) false g ⟨j.1,by
    rcases j.2 with h1|h1
    .exact h1.imp_right fun h=>⟨rfl,h.2⟩
    .exact .inr ⟨rfl,qe g h1⟩⟩) t)
   have A:=hinv.put d (gO s.1) (ye (R:=fun _ _=>True) hrel);exact E _ _ _ _ A n
  .obtain⟨s,n⟩:=aX n;rw[aG]at s;obtain⟨hinv,_⟩:=rN (fb:=l) (f:=l) h x lZ D F H (fun g j=>j) (fun g j=>j) C nil rfl;have hrel:=Dk (f:=l) (bx:=(b,ex l q.1 y.2.1)::st.bx) (bl:=[]++st.bl) s.2 (kt (fun g j=>Ka (bQ:=bQ) h (own0:=cG (G.hb b)) O [] (some (b,G.hb b,ex l q.1 y.2.1)) l g ⟨j.1,j.2⟩) t);have A:=hinv.put d (gO s.1) (ye (R:=fun _ _=>True) hrel);exact E _ _ _ _ A n
  .obtain⟨s,qf⟩:=aX n;simp only[aG]at s;obtain⟨⟨⟨qg,qh⟩,qi⟩,qj⟩:=s;cases aO qg;have qk:pe w' (fun g=>bQ g=none/\nwC G l b g) bQ rs y.1 0 us :=
    pe.aJL (fun g j=>⟨j.1,j.2.elim (fun h=>h) fun h=>by cases h.1⟩) t
   obtain⟨L,ql,I⟩:=adL (id:=d) (f:=l) qj qk;obtain⟨hinv,qm⟩:=rN (fb:=l) h x lZ D F H (fun g j=>j) (fun g j=>j) C ql qh;have hrel:=I.imp fun c v s=>VM qm s
   have A:=hinv.put d (gO qi) (ye (R:=fun _ _=>True) hrel);exact E _ _ _ _ A qf
 .cases n
def aC6 {i:Nat}{os:List Operand}{o:Operand}(h:nv os i=some o):arC st i os=st.ec o:=by unfold arC;rw[h]
def amD {st:St}{p:Ty×Bool}{l:List AC}{y:p.1.D}(h:imV st p (.agg l)=some y):p.2=true/\im st p.1 l=some (y,[]):=by
 obtain⟨t,b⟩:=p;cases b with
 |false=>simp[imV]at h
 |true =>
  simp only[imV]at h;split at h
  .rename_i z c;cases h;exact⟨rfl,c⟩
  .cases h
def abS {st:St}{pm:PM}:∀(i:Nat) (ps:List (Ty×Bool)) (os:List Operand) (x:Args ps),kb st pm i ps os=some x->∃op p y,nv os i=some op/\nv ps i=some p/\im2 st pm p op=some y
 |0,[],os,x,b=>by cases os<;>simp[kb]at b
 |_+1,[],os,x,b=>by cases os<;>simp[kb]at b
 |0,p::ps,[],x,b=>by simp[kb]at b
 |_+1,p::ps,[],x,b=>by simp[kb]at b
 |0,p::ps,o::os,x,b=>by
  simp only[kb]at b;split at b
  .rename_i y c;exact⟨o,p,y,rfl,rfl,c⟩
  .cases b
 |i+1,p::ps,o::os,x,b=>by
  simp only[kb]at b;split at b
  .split at b
   .rename_i d e;exact abS i ps os d e
   .cases b
  .cases b
def agJ:∀{l:List AC},wQ l=true->∀id len,AC.own id len ∉ l
 |[],_,id,len=>by simp
 |c::l,h,id,len=>by
  cases c with
  |own i b=>simp[wQ]at h|_=>simp[agJ (l:=l) h]
def aAY {f:FuncId}{con:Pr}(ql:abP P w0 f con)(h:Inv w0 G st a w){args:List Operand}{d:Tmp}{x:Args con.ps}{y:Args con.rs×Args con.qs}(j:con.g x=some y)(qh:kb st con.pm con.i con.ps args=some x)
  (D:(con.pm=.cur/\(con.m=1\/con.m=2))\/∀t c v xs,c∈gN st con.pm con.i args->bC G w st.bx st.bl c v->cy st t c=some xs->∀e,Rd w (RO G false) (.sl e t) xs [v])
  (z:(match con.pm with
   |.rd=>match rdM con.m with
    |some f=>auY f con.rs st d y.1 k|none=>none
   |.own _=>adv con.rs con.qs con.m st (arC st con.i args) d y k|.box=>amy con.rs con.qs con.m st (arC st con.i args) d y k|.cur=>amz con.rs con.qs con.m st (arC st con.i args) d y k)=some r) (qt:rL w0 k r K) :
  Calls P f (args.map a.eval).toArray w fun e qi=>∃v,e=.returned v/\K (a.put (some d) v) qi/\∀(s:Operand) (g0:Nat),(con.pm=.box\/con.pm=.cur)->nv args con.i=some s->a.eval s=.pointer (some ⟨g0,0,none⟩)->∀k,k<w.heap.size->k≠g0->qi.heap[k]?=w.heap[k]?:=by
 have qw:=ql.2.1;obtain⟨s,p,qx,S,qy,qu⟩:=abS con.i con.ps args x qh;rw[aC6 S]at z;cases A:con.pm with
 |rd =>
  have D:=D.resolve_left fun h=>by rw[A]at h;cases h.1
  rw[A]at z qu;dsimp only at z;split at z
  .rename_i qf qd;obtain⟨_,_,_,_,_,qe⟩:=Cf (ok:=RO G false) (nw:=fun g=>G.nw g/\(G.own g=none\/(none:Option Nat).isSome=true)) (own0:=fun _=>none) (g0:=0) h con.i con.ps args x D qh (fun p s y I qj n N=>by have N:=N A;rw[A]at n ⊢;exact avk h N n)
   obtain⟨O,L,T,_,_,qe⟩:=Cf (ok:=RO G false) (nw:=fun g=>G.nw g/\(G.own g=none\/(none:Option Nat).isSome=true)) (own0:=fun _=>none) (g0:=0) h con.i con.ps args x D qh (fun p s y I qj n N=>by have N:=N A;rw[A]at n ⊢;exact avk h N n)
   refine Calls.mono (ql.2.2 x y j w h.below _ _ _ 0 _ _ (Pz h (own0:=fun _=>none) fun g R qk=>by cases qk) qe) fun e qi C=>?_
   obtain⟨us,rfl,W,X⟩:=C;exact⟨_,rfl,aIv h (fun g j=>j) qd W X z qt,fun _ _ q=>by rcases q with q|q<;>cases q⟩
  .cases z
 |own qf =>
  have D:=D.resolve_left fun h=>by rw[A]at h;cases h.1
  rw[A]at z;dsimp only at z;have key:∀p s y,im2 st con.pm p s=some y->gM st (pmM qf) [] (st.ec s).cells=true/\x9 st [p] [st.ec s]=true/\im1 st p s=some y:=by
   intro p s y n;rw[A]at n;simp only[im2]at n;split at n
   .rename_i M;rw[aG]at M;exact⟨M.1,M.2,n⟩
   .cases n
  obtain⟨O,L,T,_,_,qe⟩:=Cf (ok:=RO G false) (nw:=fun g=>G.nw g/\(G.own g=none\/(cg G (aV [st.ec s]) g).isSome=true)) (own0:=cg G (aV [st.ec s])) (g0:=0) h con.i con.ps args x D qh (fun L B y I qj n N=>by
   obtain⟨qz,qO,qA⟩:=key L B y n;have:B=s:=by rw[S]at I;exact(eT I).symm
   subst this;rw[A];have qR:∀g,RO G (m2 (pmM qf)) g->cg G (aV [st.ec B]) g=none/\((G.nw g/\(G.own g=none\/(cg G (aV [st.ec B]) g).isSome=true))\/(qf=false/\RO G false g)):=by
    intro g j;refine⟨by simp[cg,j.1],?_⟩;rcases j.2 with qv|qv
    .exact .inl ⟨qv,.inl j.1⟩
    .refine .inr ⟨?_,j.1,.inr ⟨rfl,qv.2⟩⟩;cases qf with
     |false=>rfl|true=>cases qv.1
   obtain⟨W,_⟩:=H5 (m:=pmM qf) (by cases qf<;>simp[pmM]) qR h (aV [st.ec B]) [] [L] [st.ec B] [a.eval B] (y,()) (pre:=[]) (seen:=[]) ⟨h.ec B,trivial⟩ (by simp) (fun id len qd=>by simp at qd) (by rw[fh,Mp];exact qz) qO (by have:imV st L (st.ec B)=some y:=qA;simp[Cb,this])
   obtain⟨v,xe,C,Y,_⟩:=W;cases C;exact Y)
  obtain⟨qz,qO,qA⟩:=key p s qx qu;have:O=s:=by rw[S]at T;exact(eT T).symm
  subst this;refine Calls.mono (ql.2.2 x y j w h.below _ _ _ 0 _ _ (Pz h (own0:=cg G (aV [st.ec O])) fun g R qk=>YB qk) qe) fun e qi C=>?_
  obtain⟨us,rfl,W,X⟩:=C;exact⟨_,rfl,ath h A (fun g j=>j) (h.ec O) qy qw qA qz W X z qt,fun _ _ q=>by rcases q with q|q<;>cases q⟩
 |cur =>
  rw[A]at z;dsimp only at z;have key:∀p s y,im2 st con.pm p s=some y->∃b l,st.ec s=.c (.ptr b 0)/\look st.bx b=some l/\wQ l=true/\imV st p (.agg l)=some y:=by
   intro p s y n;rw[A]at n;simp only[im2]at n;split at n
   .rename_i b E;split at n
    .rename_i l F;split at n
     .rename_i qB;exact⟨b,l,E,F,qB,n⟩
     .cases n
    .cases n
   .cases n
  obtain⟨b,l,E,F,qB,qC⟩:=key p s qx qu;have qD:p.2=true:=(amD qC).1;obtain⟨cs,e,qE,bp,hrel⟩:=h.bx b l F;have qF:∀g R,cG (G.hb b) g=some R->(G.own g).isSome=true:=by
   intro g R j;unfold cG at j;split at j
   .rename_i C;rw[C,bp];rfl
   .cases j
  obtain⟨ok,qS,qT,D⟩:∃ok:Nat->Prop,(∀g,ok g->cG (G.hb b) g=none)/\(con.m=1\/con.m=2\/∀g,ok g->RO G false g)/\∀t c v xs,c∈gN st con.pm con.i args->bC G w st.bx st.bl c v->cy st t c=some xs->∀e,Rd w ok (.sl e t) xs [v]:=by
   rcases D with ⟨_,h1⟩|h1
   .refine⟨fun g=>∀d,G.own g≠some (.bx d),fun g j=>p4 fun C=>j b (by rw[C,bp]),h1.elim .inl fun h=>.inr (.inl h),fun t c v xs _ z H=>ks h z H (fun id len qP _ qW=>⟨fun g j d H=>?_,fun qX g j d H=>?_⟩) fun f e u qQ _ g j d H=>?_⟩
    .rw[j.1]at H;cases H
    .obtain⟨_,_,qj,_⟩:=(h.bl id qP qW).wr qX;rw[qj g j]at H;cases H
    .rw[j.1]at H;cases H
   .refine⟨RO G false,fun g j=>p4 fun C=>?_,.inr (.inr fun g j=>j),h1⟩;have:=j.1;rw[C,bp]at this;cases this
  obtain⟨O,L,T,_,_,qe⟩:=Cf (ok:=ok) (nw:=nwC G (cj l) b) (own0:=cG (G.hb b)) (g0:=G.hb b) h con.i con.ps args x D qh (fun L B y I qj n N=>by
   have:B=s:=by rw[S]at I;exact(eT I).symm
   subst this;obtain⟨qY,qZ,qm,qn,_,qG⟩:=key L B y n;rw[E]at qm;cases qm;rw[F]at qn;cases qn;rw[A];have Y:a.eval B=.pointer (some ⟨G.hb b,0,none⟩):=by have:=h.ec B;rw[E]at this;exact this.2
   refine⟨Y,by simp[cG],cs,e,qE,?_⟩;have qH:∀t c v xs,c∈l->bC G w st.bx st.bl c v->cy st t c=some xs->∀e,Rd w (fun g=>cG (G.hb b) g=none/\nwC G (cj l) b g) (.sl e t) xs [v]:=by
    intro t c v xs qd z H;refine ks h z H (fun id len qP M _=>?_) fun f e u qQ M g j=>?_
    .subst M;exact absurd qd (agJ qB id len)
    .subst M;refine⟨p4 fun C=>?_,?_⟩
     .have:=j.1;rw[C,bp]at this;cases this
     .cases xa:cj l with
      |true =>
       have:=Pw xa f e u qQ qd;subst this;exact .inl ⟨j.2.elim (fun h=>h) fun h=>(by cases h.1),.inl j.1⟩
      |false=>exact .inr ⟨rfl,j.1,j.2.imp_right fun h=>⟨rfl,h.2⟩⟩
   obtain⟨xb,qI,qo,qK,qL,_⟩:=Pv qH hrel (amD qG).2;have:qI=[]:=ZL qL.len.symm;subst this;rw[fh]at qo;rw[qo];exact qK)
  have:O=s:=by rw[S]at T;exact(eT T).symm
  subst this;have hd0:=Pz h (own0:=cG (G.hb b)) qF;refine Calls.mono (ql.2.2 x y j w h.below ok (nwC G (cj l) b) (cG (G.hb b)) (G.hb b) _ _ ⟨fun g j=>.inl (hd0.lZ g j),fun g R qk=>⟨.inl (hd0.bp g R qk).1,(hd0.bp g R qk).2⟩,qS⟩ qe) fun e qi C=>?_
  obtain⟨us,rfl,W,X⟩:=C;rw[E]at z;exact⟨_,rfl,aGm h A qT F qy qD qw W X z qt,fun qg g0 _ qp Y k qM qN=>X.block k qM (by
   have:qg=O:=by rw[S]at qp;exact(eT qp).symm
   subst this;have q:=h.ec qg;rw[E]at q;have q:a.eval qg=.pointer (some ⟨G.hb b,0,none⟩):=q.2;rw[Y]at q;injection q with q
   injection q with q
   injection q with q
   rw[p4 (fun e=>qN (by rw[e,q]))];simp)⟩
 |box =>
  have D:=D.resolve_left fun h=>by rw[A]at h;cases h.1
  rw[A]at z;dsimp only at z;have key:∀p s y,im2 st con.pm p s=some y->∃b l,st.ec s=.c (.ptr b 0)/\look st.bx b=some l/\imV st p (.agg l)=some y:=by
   intro p s y n;rw[A]at n;simp only[im2]at n;split at n
   .rename_i b E;split at n
    .rename_i l F;exact⟨b,l,E,F,n⟩
    .cases n
   .cases n
  obtain⟨b,l,E,F,qC⟩:=key p s qx qu;have qD:p.2=true:=(amD qC).1;have qF:∀g R,cG (G.hb b) g=some R->(G.own g).isSome=true:=by
   intro g R j;obtain⟨_,_,_,bp,_⟩:=h.bx b l F;unfold cG at j;split at j
   .rename_i C;rw[C,bp];rfl
   .cases j
  obtain⟨O,L,T,_,_,qe⟩:=Cf (ok:=RO G false) (nw:=fun g=>G.nw g/\(G.own g=none\/(cG (G.hb b) g).isSome=true)) (own0:=cG (G.hb b)) (g0:=G.hb b) h con.i con.ps args x D qh (fun L B y I qj n N=>by
   have:B=s:=by rw[S]at I;exact(eT I).symm
   subst this;obtain⟨qY,qZ,qm,qn,qG⟩:=key L B y n;rw[E]at qm;cases qm;rw[F]at qn;cases qn;rw[A];obtain⟨cs,e,qE,bp,hrel⟩:=h.bx b l F;have Y:a.eval B=.pointer (some ⟨G.hb b,0,none⟩):=by have:=h.ec B;rw[E]at this;exact this.2
   refine⟨Y,by simp[cG],cs,e,qE,?_⟩;have qH:∀t c v xs,c∈l->bC G w st.bx st.bl c v->cy st t c=some xs->∀e,Rd w (RO G false) (.sl e t) xs [v]:=by
    have xc:∀(i:Nat) (Z:List Operand),nv Z i=some B->∀c∈l,c∈gN st .box i Z:=by
     intro i
     induction i with
     |zero =>
      intro Z qq c M;cases Z with
      |nil=>cases qq
      |cons o Z =>
       cases qq;simp[gN,E,F,M]
     |succ i xd =>
      intro Z qq c M;cases Z with
      |nil=>cases qq|cons o Z=>simp[gN,xd Z qq c M]
    exact fun t c v xs qd=>D t c v xs (by rw[A];exact xc con.i args I c qd)
   obtain⟨xb,qI,qo,qK,qL,_⟩:=Pv qH hrel (amD qG).2;have:qI=[]:=ZL qL.len.symm;subst this;rw[fh]at qo;rw[qo];exact qK)
  have:O=s:=by rw[S]at T;exact(eT T).symm
  subst this;refine Calls.mono (ql.2.2 x y j w h.below _ _ _ _ _ _ (Pz h qF) qe) fun e qi C=>?_
  obtain⟨us,rfl,W,X⟩:=C;rw[E]at z;exact⟨_,rfl,aGl h A (fun g j=>j) F qy qD qw W X z qt,fun qg g0 _ qp Y k qM qN=>X.block k qM (by
   have:qg=O:=by rw[S]at qp;exact(eT qp).symm
   subst this;have q:=h.ec qg;rw[E]at q;have q:a.eval qg=.pointer (some ⟨G.hb b,0,none⟩):=q.2;rw[Y]at q;injection q with q
   injection q with q
   injection q with q
   rw[p4 (fun e=>qN (by rw[e,q]))];simp)⟩
def aIw {con:Pr}{args:List Operand}(h:¬(con.pm=.cur/\(con.m=1\/con.m=2))):aIg st con args=gN st con.pm con.i args:=by
 unfold aIg;split
 .rename_i b;rw[b]at h ⊢;split
  .exact absurd ⟨rfl,.inl ‹_›⟩ h
  .exact absurd ⟨rfl,.inr ‹_›⟩ h
  .rfl
 .rfl
def adO {f:FuncId}{con:Pr}(m:abP P w0 f con)(h:Inv w0 G st a w){args:Array Operand}{ts:Array TypeId}(A:o.op=.call {callee:=.value (.func f),args:=args,argTypes:=ts})
  (b:adw con st o.dst args.toList k=some r) (B:rL w0 k r K):o.wp P a w (fun C g=>K C g/\∀(z:Operand) (n:Nat),(con.pm=.box\/con.pm=.cur)->nv args.toList con.i=some z->a.eval z=.pointer (some ⟨n,0,none⟩)->∀k,k<w.heap.size->k≠n->g.heap[k]?=w.heap[k]?) Q:=by
 unfold Oper.wp;rw[J9 m.1 A];unfold adw at b;dsimp only at b;obtain⟨I,p,L,M,D⟩:=h.freeze (aIg st con args.toList);split at b
 .rename_i x i;cases j:con.g x with
  |none=>rw[j]at b;cases b
  |some y =>
   rw[j]at b;simp only[am3]at b;have E:(args.map a.eval)=(args.toList.map a.eval).toArray:=by rw[<-adq,x6]
   show Calls P f _ w _;rw[E];cases q:o.dst with
   |none=>rw[q]at b;cases b
   |some d =>
    rw[q]at b;dsimp only at b;refine Calls.mono (aAY m p j i (by
     by_cases s:con.pm=.cur/\(con.m=1\/con.m=2)
     .exact .inl s
     .refine .inr fun t c v xs u=>abQ p (nf:=false) (fun l=>by cases l) (fun l=>by cases l) t c v xs ?_
      rw[VL D]at u;rw[aIw s];exact u) b B) fun e g F=>?_
    obtain⟨v,rfl,H,i⟩:=F;exact⟨H,i⟩
 .cases b
def axZ {f:FuncId}{con:Pr}(b:abP P w0 f con)(h:Inv w0 G st a w){args:Array Operand}{ts:Array TypeId}(c:o.op=.call {callee:=.value (.func f),args:=args,argTypes:=ts})
  (d:adw con st o.dst args.toList k=some r) (e:rL w0 k r K):o.wp P a w K Q:=by
 exact Oper.wp_mono (fun _ _ h=>h.1) (adO b h c d e)
def aAZ:∀{t:Ty} {x:t.D},am9 t x=true->aKX t x=x
 |.bool,x,h=>Eq.symm h|.int _,x,h=>(bf.1 h).symm|.str,_,h|.unit,_,h|.pair _ _,_,h|.sl _ _,_,h=>by cases h
def aA0:∀{t:Ty} {x:t.D},am9 t x=false->aKY t x=x
 |.bool,x,h=>Eq.symm h|.int _,x,_=>rfl|.str,_,_|.unit,_,_|.pair _ _,_,_|.sl _ _,_,_=>rfl
def ax0 {bx:List (Nat×List AC)}{bl:List (Nat×Option fN)}:∀{n:Nat} {vs:List Value},vs.length=n->(∀c∈vs,c.oneCell'=true)->ch (bC G w bx bl) (List.replicate n .any) vs
 |0,[],_,_=>trivial|n+1,v::vs,h,b=>by rw[List.replicate_succ];exact⟨b v (by simp),ax0 (by simpa using h) fun c d=>b c (by simp[d])⟩
 |0,_::_,h,_=>by simp at h
 |_+1,[],h,_=>by simp at h
def ax1 {f:FuncId}{con:Sel}(M:avj P w0 f con)(h:Inv w0 G st a w){args:Array Operand}{ts:Array TypeId}(qj:o.op=.call {callee:=.value (.func f),args:=args,argTypes:=ts})
  (b:auZ con st o.dst args.toList k=some r) (W:rL w0 k r K):o.wp P a w K Q:=by
 unfold Oper.wp;rw[J9 M.1 qj];unfold auZ at b;dsimp only at b;obtain⟨j,l,qk,ql,X⟩:=h.freeze (gN st (.own true) con.i args.toList);have Y:∀t c v xs,c∈gN (st.freeze (gN st (.own true) con.i args.toList)) (.own true) con.i args.toList->bC j w (st.freeze (gN st (.own true) con.i args.toList)).bx (st.freeze (gN st (.own true) con.i args.toList)).bl c v->cy (st.freeze (gN st (.own true) con.i args.toList)) t c=some xs->∀e,Rd w (RO j false) (.sl e t) xs [v] :=
  fun t c v xs C=>abQ l (nf:=false) (fun N=>by cases N) (fun N=>by cases N) t c v xs (by rw[VL X]at C;exact C)
 generalize st.freeze (gN st (.own true) con.i args.toList)=i at b l Y;clear qk ql X h;split at b
 .rename_i x Z;cases n:con.g x with
  |none=>rw[n]at b;cases b
  |some y =>
   rw[n]at b;simp only[am3]at b;have qm:(args.map a.eval)=(args.toList.map a.eval).toArray:=by rw[<-adq,x6]
   show Calls P f _ w _;rw[qm];cases qd:o.dst with
   |none=>rw[qd]at b;cases b
   |some d =>
    rw[qd]at b;dsimp only at b;obtain⟨op,p,qn,O,qe,qo⟩:=abS con.i con.ps args.toList x Z;rw[aC6 O]at b;have key:∀p op y,im2 i (.own true) p op=some y->gM i (pmM true) [] (i.ec op).cells=true/\x9 i [p] [i.ec op]=true/\im1 i p op=some y:=by
     intro p op y A;simp only[im2]at A;split at A
     .rename_i B;rw[aG]at B;exact⟨B.1,B.2,A⟩
     .cases A
    obtain⟨D,E,qf,_,_,qp⟩:=Cf (ok:=RO j false) (nw:=fun g=>j.nw g/\(j.own g=none\/(cg j (aV [i.ec op]) g).isSome=true)) (own0:=cg j (aV [i.ec op])) (g0:=0) l con.i con.ps args.toList x Y Z (fun E s y qg qF A qG=>by
     obtain⟨F,qh,H⟩:=key E s y A;have:s=op:=by rw[O]at qg;exact(eT qg).symm
     subst this;have qq:∀g,RO j (m2 (pmM true)) g->cg j (aV [i.ec s]) g=none/\((j.nw g/\(j.own g=none\/(cg j (aV [i.ec s]) g).isSome=true))\/(true=false/\RO j false g)):=by
      intro g n;refine⟨by simp[cg,n.1],?_⟩;rcases n.2 with R|R
      .exact .inl ⟨R,.inl n.1⟩
      .cases R.1
     obtain⟨z,_⟩:=H5 (m:=pmM true) (by simp[pmM]) qq l (aV [i.ec s]) [] [E] [i.ec s] [a.eval s] (y,()) (pre:=[]) (seen:=[]) ⟨l.ec s,trivial⟩ (by simp) (fun id len C=>by simp at C) (by rw[fh,Mp];exact F) qh (by have:imV i E (i.ec s)=some y:=H;simp[Cb,this])
     obtain⟨v,qH,S,qt,_⟩:=z;cases S;exact qt)
    obtain⟨F,qh,H⟩:=key p op qn qo;have:D=op:=by rw[O]at qf;exact(eT qf).symm
    subst this;have qu:p=con.q:=by have:=M.2.1;rw[qe]at this;exact eT this
    subst qu;refine Calls.mono (M.2.2 x y n w l.below _ _ _ 0 _ _ (Pz l (own0:=cg j (aV [i.ec D])) fun g qI qv=>YB qv) qp) fun e qw S=>?_
    obtain⟨us,rfl,⟨T,I,rfl,z⟩,qi⟩:=S;show K (a.put (some d) (fp [T,I])) qw;cases L:am9 con.b.1 y.2.1 with
    |true =>
     rw[L]at b z;rw[aAZ L]at b;exact ath (con:=aJ7 con) (f:=true) l rfl (fun g n=>n) (l.ec D) qe (.inl rfl) H F z qi b W
    |false =>
     rw[L]at b z;rw[aA0 L]at b;obtain⟨B,b⟩:=aX (show ck _ _=some r from b);simp only[aG]at B;obtain⟨⟨hd1,qx⟩,qy⟩:=B;obtain⟨⟨bQ,lZ,qz,z⟩,qA⟩:=z;obtain⟨qK,hinv,hrel⟩:=axY (q:=con.q) (y2:=y.2.2) (m:=2) (rs:=[con.b]) (y:=(y.2.1,())) (us:=[I]) l (fun g n=>n) (l.ec D) H F lZ qz z qi qx qy;refine W _ _ _ _ (hinv.put d (gO hd1) (v:=.Vf (aF1 con.a::(lP d true [con.b] (y.2.1,()) 0).1)) (u:=fp [T,I]) ⟨#[T,I],rfl,?_,hrel⟩) b;unfold aF1;split
     .rename_i qB;obtain⟨qC,rfl,qD,qE⟩:=qA qB;exact⟨qC,rfl,ax0 qD qE⟩
     .exact trivial
 .cases b
end
end Go.Am
