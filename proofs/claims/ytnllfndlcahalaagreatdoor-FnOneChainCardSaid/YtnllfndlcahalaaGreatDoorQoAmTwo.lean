/- No condition. -/
import Derived.Test.YtnllfndlcahalaaGreatDoorQoAmCall
set_option linter.all false
namespace Go.Am
open Go.RowKit
section
variable {P:Program} {w0:fa} {w:World} {G:Gh} {st:St} {a:Act} {U:Type} {k:St->Option U} {r:U} {K:Act->World->Prop} {Q:Exit->Act->World->Prop} {o:Oper}
def J4 {f:FuncId}(c:Zb P f){args:Array Operand}{ts:Array TypeId}(d:o.op=.call {callee:=.value (.func f),args:=args,argTypes:=ts}) :
  (execOp a.eval o).run P w=.ok (.enter f (args.map a.eval)) w:=by
 obtain⟨fn,g,h,b⟩:=c;unfold execOp;rw[d]
 have i : ¬ fn.name = "runtime.NumGoroutine" := by simpa using h
 have j:¬fn.body=none:=by intro e;rw[e]at b;cases b
 simp[resolve,Act.eval,Deferred.ofValue,invoke,callFunc,g,i,j]
def F7:∀(l:List AC) (st:St),gK st (st.freeze l)
 |[],st=>.refl st|c::l,st=>(rE st c).trans (F7 l (st.dC c))
def abP {i:Gh}{l:List AC}(y:Inv w0 i (st.freeze l) a w){nf:Bool}(z:nf=true->o3 st l=true)(A:nf=true->cj l=true) :
  ∀t c v xs,c∈l->bC i w (st.freeze l).bx (st.freeze l).bl c v->cy (st.freeze l) t c=some xs->∀e,Rd w (RO i nf) (.sl e t) xs [v]:=by
 intro t c v xs d B C e;refine kl y B C (fun id len b j h=>?_) (fun f e u D j=>?_) e
 .subst j;have E:b.w=false:=by
   rcases(F7 l st).bl id with p|⟨q,p,s⟩
   .have:=J1 l st id len b d (p.symm.trans h);rw[h]at this;have:=eR (eR this);rw[this]
   .rw[h]at s;have:=eR (eR s);rw[this]
  refine⟨fun g m=>m.JY fun n=>?_,fun x=>by rw[E]at x;cases x⟩;obtain⟨q,F,H⟩:=anv (z n) id len d;have:=J1 l st id len q d (eG F);rw[h]at this;cases this;exact H
 .subst j;exact fun g m=>m.JY fun n=>Pt (A n) f e u D d
def adP {da:St}(h:da.tm=st.tm)(x:Operand):da.eb x=st.eb x:=by
 have:da.ev x=st.ev x:=by
  cases x with
  |tmp t =>
   show da.get t=st.get t;unfold St.get;rw[h]
  |_=>rfl
 unfold St.eb;rw[this]
def aF4 {da:St}(h:gK st da)(p:Ty×Bool)(o:Operand):im1 da p o=im1 st p o:=by
 unfold im1 imV;rw[adP h.tm];split
 .rw[uf h]
 .rw[uf h]
 .rfl
def ajf {da:St}(h:gK st da):∀(ps:List (Ty×Bool)) (os:List Operand),OM da ps os=OM st ps os
 |[],[]=>rfl|[],_::_=>rfl|_::_,[]=>rfl|p::ps,o::os=>by
  simp only[OM];rw[aF4 h];split
  .rw[ajf h ps os]
  .rfl
def OS {da:St}(h:gK st da):∀(os:List Operand),kC da os=kC st os
 |[]=>rfl|o::os=>by simp only[kC];rw[adP h.tm,OS h os]
def aF5 (G:Gh)(bx:List (Nat×List AC))(bl:List (Nat×Option fK))(g:Nat):Key->Prop
 |.bx d=>(look bx d).isSome=true/\g=G.hb d|.bl id=>(look bl id).isSome=true/\(G.hv id).ownBlock=some g|.hid=>False
def Inv.aLF (h:Inv w0 G st a w){w':World}{f:Nat->Prop}(i:eX f w w')(hfr:∀g,f g->(G.own g).isSome=true)(C:∀g,f g->G.own g≠some .hid)
  {G2:Gh} {bx2:List (Nat×List AC)} {bl2:List (Nat×Option fK)} (hnw:G2.nw=G.nw) (dd:G2.ok=G.ok) (z:∀g,g<w.heap.size->¬f g->G2.own g=G.own g)
  (p:kE G st.bx st.bl G2 bx2 bl2)
  (D:Yt G w G2 w'->∀d l,look bx2 d=some l->(look st.bx d=some l/\G2.hb d=G.hb d/\¬f (G.hb d))\/(∃cs e,w'.heap[G2.hb d]?=some (.cells cs e (0,0))/\G2.own (G2.hb d)=some (.bx d)/\ch (bC G2 w' bx2 bl2) l cs.toList))
  (E:∀id b,look bl2 id=some (some b)->(look st.bl id=some (some b)/\G2.hv id=G.hv id/\∀g,G.own g=some (.bl id)->¬f g)\/E1 G2 w' id b)
  (bp:∀g k,G2.own g=some k->(w.heap.size<=g\/f g)->g<w'.heap.size/\aF5 G2 bx2 bl2 g k) :
  Inv w0 G2 {st with bx:=bx2,bl:=bl2} a w'/\Yt G w G2 w':=by
 have q:Yt G w G2 w':=by
  refine⟨hnw,dd,i.size,fun b s j=>?_,fun b s j=>?_⟩
  .have x:¬f b:=fun u=>by have:=hfr b u;rw[j]at this;cases this
   exact⟨(z b s x).trans j,i.block b s x⟩
  .have x:¬f b:=fun u=>C b u j
   exact⟨(z b s x).trans j,i.block b s x⟩
 refine⟨⟨hnw.trans h.nw,dd.trans h.rok,?_,h.defers,h.size,h.sp.mono q p,h.F5 q,fun t v F=>(h.tm t v F).mono q p,?_,?_,?_⟩,q⟩
 .refine h.below.step i.os i.tape i.output i.size fun k y u=>i.block k (EX y h.below.size) fun H=>?_
  obtain⟨key,A⟩:=lS.1 (hfr k H);rcases(h.own k key A).1 with h1|h1
  .omega
  .exact u h1
 .intro d l I;rcases D q d l I with ⟨h1,m,c⟩|h1
  .obtain⟨cs,e,L,B,M⟩:=h.bx d l h1;have hlt:=(h.own _ _ B).2.1;refine⟨cs,e,?_,?_,M.imp fun _ _=>bC.mono q p⟩
   .rw[m,i.block _ hlt c];exact L
   .rw[m,z _ hlt c];exact B
  .exact h1
 .intro id b s;rcases E id b s with ⟨h1,m,c⟩|h1
  .refine(h.bl id b h1).mono q m fun R g S j=>?_
   have hlt:=(h.own _ _ j).2.1;exact⟨(z g hlt (c g j)).trans j,i.block g hlt (c g j)⟩
  .exact h1
 .intro g k y;by_cases n:w.heap.size<=g\/f g
  .obtain⟨h1,m⟩:=bp g k y n;refine⟨?_,h1,by cases k with|bx d=>exact m|bl id=>exact m|hid=>exact m.elim⟩;rcases n with n|n
   .exact .inl (bY h.below.size n)
   .obtain⟨key,A⟩:=lS.1 (hfr g n);exact(h.own g key A).1
  .have hlt:g<w.heap.size:=by
    by_cases N:g<w.heap.size
    .exact N
    .exact absurd (.inl (by omega)) n
   have O:¬f g:=fun u=>n (.inr u)
   rw[z g hlt O]at y;obtain⟨h1,m,c⟩:=h.own g k y;refine⟨h1,EX m i.size,?_⟩;cases k with
   |hid=>trivial|bx d=>exact⟨(p.bx d c.1).1,by rw[(p.bx d c.1).2];exact c.2⟩
   |bl id=>exact⟨(p.bl id c.1).1,by rw[(p.bl id c.1).2.1];exact c.2⟩
def OT (L:List (Nat×fK×Value))(g:Nat):Option Key:=(L.find? fun z=>z.2.2.ownBlock==some g).map fun z=>.bl z.1
def Dc (L:List (Nat×fK×Value))(B:Option (Nat×Nat×List AC))(g:Nat):Option Key:=match B with
 |some (d,b,_)=>if g=b then some (.bx d) else OT L g|none=>OT L g
def Gh.back (G:Gh)(c:Nat)(own0 bQ:Nat->Option Nat)(L:List (Nat×fK×Value))(B:Option (Nat×Nat×List AC)):Gh :=
 {nw:=G.nw,ok:=G.ok,
  hb:=fun x=>match B with|some (d,b,_)=>if x=d then b else G.hb x|none=>G.hb x,
  hv:=fun i=>match L.find? (·.1==i) with|some z=>z.2.2|none=>G.hv i,
  own:=fun g=>if g<c/\own0 g=none then G.own g else match bQ g with|none=>none|some _=>Dc L B g}
structure anC (w w':World) (G:Gh) (st:St) (own0 bQ:Nat->Option Nat) (okE:Bool->Nat->Prop) (L:List (Nat×fK×Value)) (B:Option (Nat×Nat×List AC))
  (bx2:List (Nat×List AC)) (bl2:List (Nat×Option fK)):Prop where
 keeps:eX (fun g=>(own0 g).isSome=true) w w'
 pass:∀g j,own0 g=some j->(G.own g).isSome=true
 aK4:∀g j,own0 g=some j->G.own g≠some .hid
 new:∀g j,bQ g=some j->w.heap.size<=g\/(own0 g).isSome=true
 els:∀f g,okE f g->RO (G.back w.heap.size own0 bQ L B) f g
 row:∀z∈L,z.2.1.w=true/\0<z.2.1.t.n/\(∃rows,w'.ownsRow 0 z.2.1.e z.2.1.t.n z.2.2 z.2.1.xs.length rows/\fe w' (okE z.2.1.f) z.2.1.t rows z.2.1.xs)/\∀g,z.2.2.ownBlock=some g->(bQ g).isSome=true
 inj:∀z∈L,∀z'∈L,∀g,z.2.2.ownBlock=some g->z'.2.2.ownBlock=some g->z=z'
 uniq:∀z∈L,∀z'∈L,z.1=z'.1->z=z'
 name:∀z∈L,look st.bl z.1=none\/(z.2.2=G.hv z.1/\∃b,look st.bl z.1=some (some b)/\b.t=z.2.1.t)
 bl:∀i b,look bl2 i=some (some b)->(∃v,(i,b,v)∈L)\/((∀z∈L,z.1≠i)/\look st.bl i=some (some b)/\∀g,G.own g=some (.bl i)->own0 g=none)
 bls:∀i,(look st.bl i).isSome=true->(look bl2 i).isSome=true
 blL:∀z∈L,(look bl2 z.1).isSome=true
 bx:∀d l,look bx2 d=some l->(∃g0,B=some (d,g0,l))\/((∀d' g l',B=some (d',g,l')->d'≠d)/\look st.bx d=some l/\own0 (G.hb d)=none)
 bxs:∀d,(look st.bx d).isSome=true->(look bx2 d).isSome=true
 bxB:∀d g l,B=some (d,g,l)->(look bx2 d).isSome=true/\(look st.bx d=none\/G.hb d=g)/\((bQ g).isSome=true/\∀z∈L,z.2.2.ownBlock≠some g) /\
  ∃cs e f t x,w'.heap[g]?=some (.cells cs e (0,0))/\l=ex f t x/\Rd w' (okE f) t x cs.toList
def anC.find {w w':World}{G:Gh}{st:St}{own0 bQ:Nat->Option Nat}{okE:Bool->Nat->Prop}{L:List (Nat×fK×Value)}{B:Option (Nat×Nat×List AC)}
  {bx2:List (Nat×List AC)} {bl2:List (Nat×Option fK)} (h:anC w w' G st own0 bQ okE L B bx2 bl2) {z:Nat×fK×Value} (b:z∈L) {g:Nat} (c:z.2.2.ownBlock=some g) :
  (G.back w.heap.size own0 bQ L B).own g=some (.bl z.1):=by
 obtain⟨t,j⟩:=lS.1 ((h.row z b).2.2.2 g c);have m:OT L g=some (.bl z.1):=by
  unfold OT;cases e:L.find? fun z=>z.2.2.ownBlock==some g with
  |none =>
   have:=am4.1 e z b;simp[c]at this
  |some y =>
   have n:=ai7 e;have f:=Vh e;have:=h.inj z b y f g c (by simpa using n);rw[<-this];rfl
 have p:¬(g<w.heap.size/\own0 g=none):=by
  rintro⟨n,f⟩;rcases h.new g _ j with i|i
  .omega
  .rw[f]at i;cases i
 unfold Gh.back;dsimp only;rw[af p,j];dsimp only;unfold Dc;split
 .rename_i d u l;split
  .rename_i q;subst q;obtain⟨_,_,⟨v,s⟩,_⟩:=h.bxB d g l rfl;exact absurd c (s z b)
  .exact m
 .exact m
def Inv.back (h:Inv w0 G st a w){w':World}{own0 bQ:Nat->Option Nat}{okE:Bool->Nat->Prop}{L:List (Nat×fK×Value)}{B:Option (Nat×Nat×List AC)}
  {bx2:List (Nat×List AC)} {bl2:List (Nat×Option fK)} (j:anC w w' G st own0 bQ okE L B bx2 bl2) :
  Inv w0 (G.back w.heap.size own0 bQ L B) {st with bx:=bx2,bl:=bl2} a w'/\∀c v,ti L c v->bC (G.back w.heap.size own0 bQ L B) w' bx2 bl2 c v:=by
 have hvL:∀z∈L,(G.back w.heap.size own0 bQ L B).hv z.1=z.2.2:=by
  intro z I;show(match L.find? (·.1==z.1) with|some z=>z.2.2|none=>G.hv z.1)=_;cases C:L.find? (·.1==z.1) with
  |none =>
   have:=am4.1 C z I;simp at this
  |some y =>
   have h1:=ai7 C;have D:=Vh C;rw[j.uniq y D z I (by simpa using h1)]
 have qh:∀i,(∀z∈L,z.1≠i)->(G.back w.heap.size own0 bQ L B).hv i=G.hv i:=by
  intro i M;show(match L.find? (·.1==i) with|some z=>z.2.2|none=>G.hv i)=_;cases C:L.find? (·.1==i) with
  |none=>rfl
  |some y =>
   have h1:=ai7 C;exact absurd (by simpa using h1) (M y (Vh C))
 have qi:∀d,(∀F g l,B=some (F,g,l)->F≠d)->(G.back w.heap.size own0 bQ L B).hb d=G.hb d:=by
  intro d N;show(match B with|some (F,E,_)=>if d=F then E else G.hb d|none=>G.hb d)=_;cases B with
  |none=>rfl
  |some q =>
   obtain⟨F,g,l⟩:=q;have:=N F g l rfl;show(if d=F then g else G.hb d)=_;rw[af fun e=>this e.symm]
 have qd:∀d g l,B=some (d,g,l)->(G.back w.heap.size own0 bQ L B).hb d=g:=by intro d g l u;subst u;simp[Gh.back]
 have qo:kE G st.bx st.bl (G.back w.heap.size own0 bQ L B) bx2 bl2:=by
  refine⟨fun d N=>⟨j.bxs d N,?_⟩,fun i M=>⟨j.bls i M,?_,fun qj qp=>?_⟩⟩
  .by_cases H:∃g l,B=some (d,g,l)
   .obtain⟨g,l,H⟩:=H;rw[qd d g l H];rcases(j.bxB d g l H).2.1 with h1|h1
    .rw[h1]at N;cases N
    .exact h1.symm
   .exact qi d fun F g l u qq=>H ⟨g,l,by rw[u,qq]⟩
  .by_cases H:∃z∈L,z.1=i
   .obtain⟨z,I,rfl⟩:=H;rw[hvL z I];rcases j.name z I with h1|⟨h1,_⟩
    .rw[h1]at M;cases M
    .exact h1
   .exact qh i fun z I qt=>H ⟨z,I,qt⟩
  .rcases j.bl i qj qp with ⟨v,W⟩|⟨_,h1,_⟩
   .rcases j.name _ W with h1|⟨_,b,D,m⟩
    .rw[h1]at M;cases M
    .exact⟨b,D,m⟩
   .exact⟨qj,h1,rfl⟩
 have qu:=h.aLF (G2:=G.back w.heap.size own0 bQ L B) (bx2:=bx2) (bl2:=bl2) j.keeps (fun g p=>by
   obtain⟨O,qf⟩:=lS.1 p;exact j.pass g O qf) (fun g p=>by
   obtain⟨O,qf⟩:=lS.1 p;exact j.aK4 g O qf) rfl rfl (fun g p C=>by
   have:own0 g=none:=by
    cases R:own0 g with
    |none=>rfl|some O=>rw[R]at C;exact absurd rfl C
   simp[Gh.back,p,this]) qo (fun qC d l N=>by
   rcases j.bx d l N with ⟨E,p⟩|⟨h1,D,m⟩
   .refine .inr ?_;obtain⟨_,_,⟨qv,qk⟩,cs,e,f,t,x,qe,rfl,qw⟩:=j.bxB d E l p;obtain⟨O,S⟩:=lS.1 qv;refine⟨cs,e,by rw[qd d E _ p];exact qe,?_,VA (iJ (fun g p=>j.els f g p) qw)⟩;rw[qd d E _ p];have qg:¬(E<w.heap.size/\own0 E=none):=by
     rintro⟨qD,qx⟩;rcases j.new E O S with m|m
     .omega
     .rw[qx]at m;cases m
    subst p;unfold Gh.back;dsimp only;rw[af qg,S];simp[Dc]
   .exact .inl ⟨D,qi d h1,by rw[m];simp⟩) (fun i b X=>by
   rcases j.bl i b X with ⟨v,W⟩|⟨h1,D,m⟩
   .refine .inr ?_;obtain⟨qy,qz,⟨rows,S,qk⟩,qe⟩:=j.row _ W;have Y:=hvL _ W;refine⟨fun _=>⟨rows,?_,?_,?_⟩,fun ql=>?_,qz⟩
    .rw[Y];exact S
    .rw[Y];exact fun g p=>j.find W p
    .exact lV (fun g p=>j.els _ g p) qk
    .rw[show b.w=true from qy]at ql;cases ql
   .exact .inl ⟨D,qh i h1,fun g p=>by rw[m g p];simp⟩) (fun g key A qA=>by
   have qg:¬(g<w.heap.size/\own0 g=none):=by
    rintro⟨h1,D⟩;rcases qA with m|m
    .omega
    .rw[D]at m;cases m
   have qE:=A;unfold Gh.back at A;dsimp only at A;rw[af qg]at A;cases R:bQ g with
   |none=>rw[R]at A;cases A
   |some O =>
    rw[R]at A;dsimp only at A;have qm:OT L g=some key->g<w'.heap.size/\aF5 (G.back w.heap.size own0 bQ L B) bx2 bl2 g key:=by
     intro Z;unfold OT at Z;cases C:L.find? fun z=>z.2.2.ownBlock==some g with
     |none=>rw[C]at Z;cases Z
     |some y =>
      rw[C]at Z;cases Z;have h1:=ai7 C;have D:=Vh C;have m:y.2.2.ownBlock=some g:=by simpa using h1
      refine⟨?_,j.blL y D,by rw[hvL y D];exact m⟩;obtain⟨_,_,⟨rows,S,_⟩,_⟩:=j.row y D;rcases S.2 with ⟨u,_⟩|⟨qn,cap,cur,u,_,qB,_⟩
      .rw[u]at m;simp[Value.ownBlock]at m
      .rw[u]at m;have:qn=g:=by simpa [Value.ownBlock]using m
       subst this;exact(Bz.1 qB).1
    unfold Dc at A;split at A
    .rename_i d E l;by_cases u:g=E
     .rw[ag u]at A;cases A;obtain⟨h1,_,_,cs,e,f,t,x,qe,_⟩:=j.bxB d E l rfl;subst u;exact⟨(Bz.1 qe).1,h1,(qd d g l rfl).symm⟩
     .rw[af u]at A;exact qm A
    .exact qm A)
 refine⟨qu.1,fun c v T=>?_⟩;cases c with
 |own i len =>
  cases len with
  |some l=>exact T.elim
  |none =>
   obtain⟨b,X⟩:=T;have Y:=hvL _ X;refine⟨j.blL _ X,?_,Y.symm⟩;rw[show(G.back w.heap.size own0 bQ L B).hv i=v from Y];obtain⟨_,_,⟨rows,R,_⟩,_⟩:=j.row _ X;rcases R.2 with ⟨u,_⟩|⟨qn,cap,cur,u,_⟩
   .exact⟨_,_,_,u⟩
   .exact⟨_,_,_,u⟩
 |int k n=>exact T|bool b=>exact T|str s=>exact T|_=>exact T.elim
def iK:List AC->List Nat
 |[]=>[]|.own id _::l=>id::iK l|_::l=>iK l
def aEu {m:Nat}(i:m=2\/m=3){seen:List Nat}{id:Nat}{len:Option Int}{l:List AC}(h:gH st m seen (.own id len::l)=true) :
  ∃b,st.rA id=some b/\(m=2->b.f=true)/\b.w=true/\id ∉ seen/\len=none/\gH st m (id::seen) l=true:=by
 simp only[gH]at h;split at h
 .rename_i b d;have hlen:∀o:Option Int,(match o with|none=>true|some _=>false)=true->o=none:=by
   intro o j;cases o with
   |none=>rfl|some _=>cases j
  have e:∀c:Bool,(!c)=true->c=false:=by intro c n;cases c with|false=>rfl|true=>cases n
  have f:Za seen id=false->id ∉ seen:=fun g p=>by rw[VI.2 p]at g;cases g
  rcases i with rfl|rfl
  .simp only[aF,kB]at h;exact⟨b,d,fun _=>h.1.1.elim (fun h=>h.elim (fun h=>h) (fun h=>by cases h)) (fun h=>by cases h),h.1.2.1.1,f (e _ h.1.2.1.2),hlen _ h.1.2.2,h.2⟩
  .simp only[aF]at h;exact⟨b,d,fun q=>(by cases q),h.1.2.1.1,f (e _ h.1.2.1.2),hlen _ h.1.2.2,h.2⟩
 .cases h
def aAX {m:Nat}{seen:List Nat}{c:AC}{l:List AC}(b:∀id len,c≠.own id len)(h:gH st m seen (c::l)=true):gH st m seen l=true:=by
 cases c with
 |own id len=>exact absurd rfl (b id len)|ro f e t xs=>simp only[gH,aF]at h;exact h.2|_=>exact h
def Yx {m:Nat}(g:m=2\/m=3):∀{l:List AC} {seen:List Nat},gH st m seen l=true->(iK l).Nodup/\(∀id∈iK l,id ∉ seen)/\∀id len,AC.own id len∈l->len=none/\∃b,st.rA id=some b
 |[],seen,_=>⟨List.nodup_nil,fun id hi=>by simp[iK]at hi,fun id len hi=>by simp at hi⟩
 |c::l,seen,h=>by
  by_cases q:∃id len,c=.own id len
  .obtain⟨id,len,rfl⟩:=q;obtain⟨b,s,_,_,t,hlen,u⟩:=aEu g h;obtain⟨j,e,n⟩:=Yx g u;refine⟨au0.2 ⟨fun hi=>e id hi (by simp),j⟩,fun i hi=>?_,fun i f hi=>?_⟩
   .rcases cS.1 (show i∈id::iK l from hi) with rfl|hi
    .exact t
    .exact fun v=>e i hi (by simp[v])
   .rcases cS.1 hi with d|hi
    .cases d;exact⟨hlen,b,s⟩
    .exact n i f hi
  .have p:∀id len,c≠.own id len:=fun id len d=>q ⟨id,len,d⟩
   obtain⟨j,e,n⟩:=Yx g (aAX p h);have d:iK (c::l)=iK l:=by
    cases c with
    |own id len=>exact absurd rfl (p id len)|_=>rfl
   rw[d];refine⟨j,e,fun i f hi=>?_⟩;rcases cS.1 hi with x|hi
   .exact absurd x.symm (p i f)
   .exact n i f hi
def agJ (id:Nat):∀(l:List AC),look (st.gone l).bl id=if id∈iK l then some none else look st.bl id
 |[]=>by simp[iK,St.gone]
 |c::l=>by
  have d:=agJ id l;cases c with
  |own i len =>
   show look ((i,none)::(st.gone l).bl) id=_;rw[au];by_cases b:i=id
   .simp[b,iK]
   .rw[af b,d];have f:¬id=i:=fun e=>b e.symm
    simp[iK,f]
  |_=>exact d
structure avq (w':World) (okE:Nat->Prop) (f:Bool) (bQ:Nat->Option Nat) (G:Gh) (st:St) (z:Nat×Nat×fK×Value):Prop where
 wr:z.2.2.1.w=true
 nf:z.2.2.1.f=f
 pos:0<z.2.2.1.t.n
 row:∃rows,w'.ownsRow 0 z.2.2.1.e z.2.2.1.t.n z.2.2.2 z.2.2.1.xs.length rows/\fe w' okE z.2.2.1.t rows z.2.2.1.xs
 rA:∀g,z.2.2.2.ownBlock=some g->bQ g=some z.1
 hv:z.2.2.2=G.hv z.2.1
 old:∃b,look st.bl z.2.1=some (some b)/\b.t=z.2.2.1.t
def FrC.len {w:World}{okE:Nat->Prop}{own:Nat->Option Nat}:∀{t:Ty} {x:t.D} {j:Nat} {cs:List Value},FrC w okE own t x j cs->cs.length=t.n
 |.int _,_,_,_,h=>by rw[show _=_ from h];rfl
 |.bool,_,_,_,h=>by rw[show _=_ from h];rfl
 |.str,_,_,_,h=>by rw[show _=_ from h];rfl
 |.unit,_,_,_,h=>by rw[show _=_ from h];rfl
 |.pair a b,_,_,_,h=>by obtain⟨f,g,rfl,c,d⟩:=h;simp[Ty.n,FrC.len c,FrC.len d]
 |.sl e t,_,_,_,h=>by obtain⟨v,rows,rfl,_⟩:=h;rfl
def FrC.els {w:World}{okE anD:Nat->Prop}{own:Nat->Option Nat}:∀{t:Ty} {x:t.D} {j:Nat} {cs:List Value},FrC w okE own t x j cs->(∀g,okE g->anD g)->FrC w anD own t x j cs
 |.int _,_,_,_,h,_=>h|.bool,_,_,_,h,_=>h|.str,_,_,_,h,_=>h|.unit,_,_,_,h,_=>h|.pair a b,_,_,_,h,c=>by obtain⟨i,l,e,d,f⟩:=h;exact⟨i,l,e,FrC.els d c,FrC.els f c⟩
 |.sl e t,_,_,_,h,c=>by obtain⟨v,rows,d,f,m,n,p⟩:=h;exact⟨v,rows,d,f,m,n,lV c p⟩
def o9.aJF {w:World}{okE anD:Nat->Prop}{own:Nat->Option Nat}(b:∀g,okE g->anD g):∀{rs:List (Ty×Bool)} {x:Args rs} {j:Nat} {vs:List Value},o9 w okE own rs x j vs->o9 w anD own rs x j vs
 |[],_,_,_,h=>h|_::_,_,_,_,h=>by obtain⟨v,c,e,⟨cs,d,f⟩,i⟩:=h;exact⟨v,c,e,⟨cs,FrC.els d b,f⟩,o9.aJF b i⟩
def aIl (h:Inv w0 G st a w){l:List AC}:∀t c v xs,c∈l->bC G w st.bx st.bl c v->cy st t c=some xs->∀e,Rd w (fun _=>True) (.sl e t) xs [v]:=fun t c v xs _=>VH h t c v xs
def agK {w':World}{okE:Nat->Prop}{f:Bool}{bQ:Nat->Option Nat}:∀{t:Ty} {B x:t.D} {j:Nat} {l h:List AC} {vs u cs:List Value},
  im st t l=some (B,h)->ch (bC G w st.bx st.bl) l vs->(∀id len,AC.own id len∈l->len=none/\∃b,st.rA id=some b)->FrC w' okE bQ t x j cs->vs=cs++u ->
  ∃(C:List AC) (L:List (Nat×Nat×fK×Value)),l=C++h/\ch (bC G w st.bx st.bl) h u/\(tg f t x l).2=h/\(tg f t x l).1=L.map (fun z=>(z.2.1,some z.2.2.1))/\L.map (·.2.1)=iK C /\
   (∀z∈L,j<=z.1/\z.1<j+t.n/\avq w' okE f bQ G st z)/\(∀z∈L,∀A∈L,z.1=A.1->z=A)
 |.int k,B,x,j,l,h,vs,u,cs,g,hrel,bp,i,m=>by
  cases l with
  |nil=>simp[im]at g
  |cons c l =>
   cases c with
   |int q n =>
    simp only[im]at g;split at g
    .cases g;subst m;rw[show cs=_ from i]at hrel;exact⟨[_],[],rfl,hrel.2,rfl,rfl,rfl,fun z d=>by simp at d,fun z d=>by simp at d⟩
    .cases g
   |_=>simp[im]at g
 |.bool,B,x,j,l,h,vs,u,cs,g,hrel,bp,i,m=>by
  cases l with
  |nil=>simp[im]at g
  |cons c l =>
   cases c with
   |bool b =>
    simp only[im]at g;cases g;subst m;rw[show cs=_ from i]at hrel;exact⟨[_],[],rfl,hrel.2,rfl,rfl,rfl,fun z d=>by simp at d,fun z d=>by simp at d⟩
   |_=>simp[im]at g
 |.str,B,x,j,l,h,vs,u,cs,g,hrel,bp,i,m=>by
  cases l with
  |nil=>simp[im]at g
  |cons c l =>
   cases c with
   |str b =>
    simp only[im]at g;cases g;subst m;rw[show cs=_ from i]at hrel;exact⟨[_],[],rfl,hrel.2,rfl,rfl,rfl,fun z d=>by simp at d,fun z d=>by simp at d⟩
   |_=>simp[im]at g
 |.unit,B,x,j,l,h,vs,u,cs,g,hrel,bp,i,m=>by simp only[im]at g;cases g;subst m;rw[show cs=[] from i]at hrel;exact⟨[],[],rfl,hrel,by simp[tg],by simp[tg],rfl,fun z d=>by simp at d,fun z d=>by simp at d⟩
 |.pair p q,B,x,j,l,h,vs,u,cs,g,hrel,bp,i,m=>by
  simp only[im]at g;split at g
  .rename_i y W X;split at g
   .rename_i z qA d;cases g;obtain⟨qB,qC,rfl,Y,Z⟩:=i;obtain⟨C,qd,M,qe,N,qf,qg,E,qh⟩:=agK (f:=f) X hrel bp Y (by rw[m,hl]);obtain⟨qi,qj,qk,ql,qm,qn,qo,F,qp⟩:=agK (f:=f) (l:=W) d qe (fun id len qq=>bp id len (by rw[M];simp[qq])) Z rfl;refine⟨C++qi,qd++qj,by rw[M,qk,hl],ql,?_,?_,?_,fun z d=>?_,fun z d A s O=>?_⟩
    .simp only[tg,N,qm]
    .simp only[tg,N,qf,qn,adr]
    .rw[adr,qg,qo];have app:∀(a b:List AC),iK (a++b)=iK a++iK b:=by
      intro a b
      induction a with
      |nil=>rfl
      |cons c a R =>
       cases c with
       |own id len=>simp[iK,R]|_=>simp[iK,R]
     rw[app]
    .rcases gF.1 d with d|d
     .obtain⟨S,qt,H⟩:=E z d;exact⟨S,by simp only[Ty.n];omega,H⟩
     .obtain⟨S,qt,H⟩:=F z d;exact⟨by omega,by simp only[Ty.n];omega,H⟩
    .rcases gF.1 d with d|d<;>rcases gF.1 s with s|s
     .exact qh z d A s O
     .have:=(E z d).2.1;have:=(F A s).1;omega
     .have:=(F z d).1;have:=(E A s).2.1;omega
     .exact qp z d A s O
   .cases g
  .cases g
 |.sl e t,B,x,j,l,h,vs,u,cs,g,hrel,bp,i,m=>by
  cases l with
  |nil=>simp[im]at g
  |cons c l =>
   simp only[im]at g;split at g
   .rename_i qD D;cases g;obtain⟨v,rows,rfl,qu,qv,qw,qx⟩:=i;subst m;have qy:bC G w st.bx st.bl c v:=hrel.1;have I:ch (bC G w st.bx st.bl) h u:=hrel.2;cases c with
    |own id len =>
     obtain⟨hlen,b,T⟩:=bp id len (by simp);subst hlen;simp only[cy,T]at D;split at D
     .rename_i qz;refine⟨[.own id none],[(j,id,⟨e,t,x,f,true⟩,v)],rfl,I,rfl,rfl,rfl,fun z d=>?_,fun z d A s _=>?_⟩
      .simp at d;subst d;refine⟨bF _,by simp[Ty.n],rfl,rfl,qu,⟨rows,qv,qx⟩,qw,qy.2.2,b,eG T,Ty.beq_eq qz⟩
      .simp at d s;rw[d,s]
     .cases D
    |nil=>exact⟨[_],[],rfl,I,rfl,rfl,rfl,fun z d=>by simp at d,fun z d=>by simp at d⟩
    |ro qE qF qG qH=>exact⟨[_],[],rfl,I,rfl,rfl,rfl,fun z d=>by simp at d,fun z d=>by simp at d⟩
    |_=>simp[cy]at D
   .cases g
def VK {da:St}(h:gK st da)(pm:PM):∀(i:Nat) (os:List Operand),gI da pm i os=gI st pm i os
 |0,[]=>rfl|_+1,[]=>rfl|0,o::os=>by simp only[gI];rw[adP h.tm,OS h os,h.bx]
 |i+1,o::os=>by simp only[gI];rw[adP h.tm,VK h pm i os]
def B8 (h:Inv w0 G st a w){ok nw:Nat->Prop}{own0:Nat->Option Nat}{g0:Nat}{pm:PM}:∀(i:Nat) (ps:List (Ty×Bool)) (os:List Operand) (x:Args ps),
  (∀t c v xs,c∈gI st pm i os->bC G w st.bx st.bl c v->cy st t c=some xs->∀e,Rd w ok (.sl e t) xs [v])->j6 st pm i ps os=some x ->
  (∀p o y,nk os i=some o->nk ps i=some p->im2 st pm p o=some y->(pm=.rd->∀t c v xs,c∈(st.eb o).cells->bC G w st.bx st.bl c v->cy st t c=some xs->∀e,Rd w ok (.sl e t) xs [v])->aK1 w ok nw own0 g0 pm p y (a.eval o)) ->
  ∃o p,nk os i=some o/\nk ps i=some p/\(∃y,im2 st pm p o=some y)/\VG w ok nw own0 g0 pm i ps x (os.map a.eval) (a.eval o)
 |0,[],os,x,_,b,_=>by cases os<;>simp[j6]at b
 |_+1,[],os,x,_,b,_=>by cases os<;>simp[j6]at b
 |0,p::ps,[],x,_,b,_=>by simp[j6]at b
 |_+1,p::ps,[],x,_,b,_=>by simp[j6]at b
 |0,p::ps,o::os,x,f,b,j=>by
  simp only[j6]at b;split at b
  .rename_i y g;split at b
   .rename_i l m;cases b;refine⟨o,p,rfl,rfl,⟨y,g⟩,os.map a.eval,rfl,j p o y rfl rfl g (fun s t c v xs d=>f t c v xs ?_),JB h ps os l (fun t c v xs d=>f t c v xs ?_) m⟩
    .subst s;simp[gI,d]
    .simp[gI,d]
   .cases b
  .cases b
 |i+1,p::ps,o::os,x,f,b,j=>by
  simp only[j6]at b;split at b
  .rename_i y g;split at b
   .rename_i l m;cases b;obtain⟨u,z,n,q,A,B⟩:=B8 h i ps os l (fun t c v xs d=>f t c v xs (by simp[gI,d])) m (fun p o y n q=>j p o y n q);exact⟨u,z,n,q,A,a.eval o,os.map a.eval,rfl,avp h (fun t c v xs d=>f t c v xs (by simp[gI,d])) g,B⟩
   .cases b
  .cases b
def J5 (h:Inv w0 G st a w){own0 bQ:Nat->Option Nat}(n:∀g i,own0 g=some i->(G.own g).isSome=true)(L:List (Nat×fK×Value))(B:Option (Nat×Nat×List AC))(f:Bool)(g:Nat)
  (j:bQ g=none/\((G.nw g/\(G.own g=none\/(own0 g).isSome=true))\/(f=false/\RO G false g))):RO (G.back w.heap.size own0 bQ L B) f g:=by
 obtain⟨l,e⟩:=j;have bp:(G.back w.heap.size own0 bQ L B).own g=none:=by
  show(if g<w.heap.size/\own0 g=none then G.own g else match bQ g with|none=>none|some _=>Dc L B g)=none;by_cases c:g<w.heap.size/\own0 g=none
  .rw[ag c];rcases e with ⟨_,b|b⟩|⟨_,b⟩
   .exact b
   .rw[c.2]at b;cases b
   .exact b.1
  .rw[af c,l]
 refine⟨bp,?_⟩;rcases e with ⟨b,_⟩|⟨b,m⟩
 .exact .inl b
 .rcases m.2 with d|d
  .exact .inl d
  .exact .inr ⟨b,d.2⟩
def Pw (h:Inv w0 G st a w){own0:Nat->Option Nat}(e:∀g b,own0 g=some b->(G.own g).isSome=true) :
  Handed w (fun g=>w0.w.heap.size<=g\/w0.fr g) (RO G false) (fun g=>G.nw g/\(G.own g=none\/(own0 g).isSome=true)) own0 where
 lU g c:=by
  refine⟨h.axW c,.inl ?_⟩;cases d:G.own g with
  |none=>rfl|some k=>have:=(h.own g k d).2.1;omega
 bp g b f:=by obtain⟨k,i⟩:=lS.1 (e g b f);obtain⟨j,l,_⟩:=h.own g k i;exact⟨⟨h.Vz i,.inr (by rw[f];rfl)⟩,l,j⟩
 dd g c:=by
  cases d:own0 g with
  |none=>rfl
  |some b =>
   have:=e g b d;rw[c.1]at this;cases this
def aAY {ok:Nat->Prop}{p:Ty×Bool}(c:p.2=true){x:Args [p]}{cs:Array Value}(h:ec w ok [p] x [.agg cs]):Rd w ok p.1 x.1 cs.toList:=by obtain⟨v,i,d,⟨e,f,b⟩,_⟩:=h;rw[c]at b;have:v=.agg cs:=(tz d).1.symm;rw[this]at b;have g:cs=e.toArray:=Value.agg.inj b;rw[g];exact f
def VL {G:Gh}{bx:List (Nat×List AC)}{bl:List (Nat×Option fK)}{L:List (Nat×fK×Value)}(h:∀c v,ti L c v->bC G w bx bl c v){c:CV}{v:Value}(b:ax3 L c v):eF G w bx bl c v:=by
 cases c with
 |c x=>exact h x v b
 |agg l =>
  obtain⟨cs,d,e⟩:=b;exact⟨cs,d,e.imp h⟩
def aIm (h:Inv w0 G st a w){con:Po}{ok:Nat->Prop}{w':World}{g0:Nat}{u:Value}{y:Args con.rs×Args con.qs}{us:List Value}(dd:∀g,ok g->RO G false g)
  {t:Bool} (x:rdM con.m=some t) (n:anz con w w' ok (fun g=>G.nw g/\(G.own g=none\/(none:Option Nat).isSome=true)) (fun _=>none) g0 u y us) (N:eX (fun g=>(none:Option Nat).isSome=true) w w') {d:Tmp}
  (p:au3 t con.rs st d y.1 k=some r) (O:rD w0 k r K):K (a.put (some d) (fk us)) w':=by
 obtain⟨bQ,lU,_,n⟩:=n;have n:∃b cs e,us=[.pointer (some ⟨b,0,none⟩)]/\w.heap.size<=b/\(bQ b).isSome=true/\w'.heap[b]?=some (.cells cs e (0,0)) /\
   ec w' (fun g=>bQ g=none/\((G.nw g/\(G.own g=none\/(none:Option Nat).isSome=true))\/(t=false/\ok g))) con.rs y.1 [.agg cs]:=by
  unfold rdM at x;split at x
  .rename_i q;cases x;rw[q]at n;obtain⟨b,cs,e,B,A,C,q,D⟩:=n;exact⟨b,cs,e,B,A,C,q,km (fun g c=>⟨c.1,.inl c.2⟩) D⟩
  .rename_i q;cases x;rw[q]at n;obtain⟨b,cs,e,B,A,C,q,D⟩:=n;exact⟨b,cs,e,B,A,C,q,km (fun g c=>⟨c.1,c.2.imp_right fun h=>⟨rfl,h⟩⟩) D⟩
  .cases x
 obtain⟨b,cs,e,rfl,qe,R,S,T⟩:=n;obtain⟨qf,i,pm,rs,m,qg,g⟩:=con;dsimp only at *;unfold au3 at p;split at p
 .rename_i E qh;split at p
  .rename_i W;obtain⟨F,p⟩:=aX p;rw[aF]at F;have X:=aAY F.2 T;have Y:anC w w' G st (fun _=>none) bQ (fun f g=>bQ g=none/\((G.nw g/\(G.own g=none\/(none:Option Nat).isSome=true))\/(f=false/\RO G false g))) [] (some (d,b,ex t E.1 y.1.1))
     ((d,ex t E.1 y.1.1)::st.bx) st.bl:=by
    refine⟨N,fun g M c=>(by cases c),fun g M c=>(by cases c),lU,fun f g c=>J5 h (fun g M c=>by cases c) [] _ f g c,fun z j=>(by simp at j),fun z j=>(by simp at j),fun z j=>(by simp at j),fun z j=>(by simp at j),
     fun i b Z=>.inr ⟨fun z j=>(by simp at j),Z,fun _ _=>rfl⟩,fun i qd=>qd,fun z j=>(by simp at j),fun H l s=>?_,fun H s=>wK _ trivial s,fun H g l I=>?_⟩
    .rw[au]at s;by_cases L:d=H
     .subst L;rw[ag rfl]at s;cases s;exact .inl ⟨b,rfl⟩
     .rw[af L]at s;exact .inr ⟨fun qi g qj I=>(by cases I;exact L),s,rfl⟩
    .cases I;refine⟨by simp[au],.inl W,⟨R,fun z j=>(by simp at j)⟩,cs,e,t,E.1,y.1.1,S,rfl,iJ (fun g c=>⟨c.1,c.2.imp_right fun h=>⟨h.1,dd g h.2⟩⟩) X⟩
   obtain⟨hinv,_⟩:=h.back Y;have A:=hinv.put d (gJ F.1) (v:=.v (.c (.ptr d 0))) (u:=.pointer (some ⟨b,0,none⟩)) ⟨by simp[au],by simp[Gh.back]⟩;exact O _ _ _ _ A p
  .cases p
 .cases p
def abQ {id:Nat}:∀{l:List AC} {k:Nat},id ∉ iK l->VJ l id k=none
 |[],_,_=>rfl|c::l,k,h=>by
  cases c with
  |own i len =>
   have b:i≠id:=fun e=>h (by simp[iK,e])
   have d:id ∉ iK l:=fun f=>h (by simp[iK,f])
   simp[VJ,b,abQ d]
  |_=>exact abQ (l:=l) h
def Yy {all:List AC}{g j:Nat}(h:cg G all g=some j):(G.own g).isSome=true:=by
 unfold cg at h;split at h
 .rename_i id hid;rw[hid];rfl
 .cases h
def aF6 {all:List AC}{g j:Nat}(h:cg G all g=some j):G.own g≠some .hid:=by
 unfold cg at h;split at h
 .rename_i id hid;rw[hid];simp
 .cases h
def ZR (h:Inv w0 G st a w){ok:Nat->Prop}{w':World}{rs:List (Ty×Bool)}{m:Nat}{y:Args rs}{us:List Value}(dd:∀g,ok g->RO G false g){all:List AC}{bQ:Nat->Option Nat}
  (lU:∀g C,bQ g=some C->w.heap.size<=g\/(cg G all g).isSome=true) (Z:eE rs=true)
  (qd:o9 w' (fun g=>bQ g=none/\((G.nw g/\(G.own g=none\/(cg G all g).isSome=true))\/(m2 m=false/\ok g))) bQ rs y 0 us) (qe:eX (fun g=>(cg G all g).isSome=true) w w') {d:Tmp}
  (qf:fV (lJ d (m2 m) rs y 0).2 st=true) {bl3:List (Nat×Option fK)} {L2:List (Nat×Nat×fK×Value)}
  (qg:∀i b,look bl3 i=some (some b)->(∃z∈L2,z.2.1=i/\z.2.2.1=b)\/((∀z∈L2,z.2.1≠i)/\i ∉ iK all/\look st.bl i=some (some b))) (qh:∀i,(look st.bl i).isSome=true->(look bl3 i).isSome=true)
  (qi:∀z∈L2,(look bl3 z.2.1).isSome=true) (qj:∀z∈L2,∀B∈L2,z.2.1=B.2.1->z=B)
  (E:∀z∈L2,nOf rs<=z.1/\avq w' (fun g=>bQ g=none/\((G.nw g/\(G.own g=none\/(cg G all g).isSome=true))\/(m2 m=false/\ok g))) (m2 m) bQ G st z) (qk:∀z∈L2,∀B∈L2,z.1=B.1->z=B) :
  ∃Y,Inv w0 Y {st with bl:=(lJ d (m2 m) rs y 0).2++bl3} a w'/\ch (eF Y w' st.bx ((lJ d (m2 m) rs y 0).2++bl3)) (lJ d (m2 m) rs y 0).1 us:=by
 obtain⟨L,M,ql⟩:=adN (id:=d) (f:=m2 m) Z qd;have N:=M.q;have R:∀z∈L,look st.bl z.1=none:=fun z j=>Da qf z.1 (by rw[N];exact kF j)
 have F:∀z,z∈L++L2.map (·.2)->z∈L\/∃p,(p,z)∈L2:=by
  intro z j;rcases gF.1 j with j|j
  .exact .inl j
  .obtain⟨q,N,rfl⟩:=EY.1 j;exact .inr ⟨q.1,N⟩
 have S:∀z∈L,∀g,z.2.2.ownBlock=some g->∃C,bQ g=some C/\C<nOf rs/\z.1=d*64+C:=by intro z j g n;obtain⟨A,t,s⟩:=M.rows z j;exact⟨_,s.rA g n,by omega,by omega⟩
 have qm:anC w w' G st (cg G all) bQ (fun f g=>bQ g=none/\((G.nw g/\(G.own g=none\/(cg G all g).isSome=true))\/(f=false/\RO G false g))) (L++L2.map (·.2)) none st.bx ((lJ d (m2 m) rs y 0).2++bl3):=by
  refine⟨qe,fun g C n=>Yy n,fun g C n=>aF6 n,lU,fun f g n=>J5 h (fun g C n=>Yy n) _ _ f g n,fun z j=>?_,fun z j B u g n T=>?_,fun z j B u H=>?_,fun z j=>?_,fun i b O=>?_,fun i qn=>?_,fun z j=>?_,fun W l D=>?_,
   fun W qo=>qo,fun W g l H=>by cases H⟩
  .rcases F z j with j|⟨p,j⟩
   .obtain⟨A,t,s⟩:=M.rows z j;obtain⟨rows,I,X⟩:=s.row;refine⟨s.wr,s.pos,⟨rows,I,agG (fun qp g n=>⟨n.1,?_⟩) X⟩,fun g n=>by rw[s.rA g n];rfl⟩;rw[s.nf,qp,anb];exact n.2.imp_right fun h=>⟨h.1,dd g h.2⟩
   .obtain⟨A,s⟩:=E _ j;obtain⟨rows,I,X⟩:=s.row;refine⟨s.wr,s.pos,⟨rows,I,lV (fun g n=>⟨n.1,?_⟩) X⟩,fun g n=>by rw[s.rA g n];rfl⟩;rw[show z.2.1.f=m2 m from s.nf];exact n.2.imp_right fun h=>⟨h.1,dd g h.2⟩
  .rcases F z j with j|⟨p,j⟩<;>rcases F B u with u|⟨qq,u⟩
   .obtain⟨C,A,_,t⟩:=S z j g n;obtain⟨qw,s,_,I⟩:=S B u g T;rw[A]at s;cases s;exact M.uniq z j B u (by omega)
   .obtain⟨C,A,t,_⟩:=S z j g n;obtain⟨s,I⟩:=E _ u;have:=I.rA g T;rw[A]at this;cases this;dsimp only at s;omega
   .obtain⟨C,A,t,_⟩:=S B u g T;obtain⟨s,I⟩:=E _ j;have:=I.rA g n;rw[A]at this;cases this;dsimp only at s;omega
   .have A:=(E _ j).2.rA g n;have t:=(E _ u).2.rA g T;rw[A]at t;have:=qk _ j _ u (eR t);exact n7 (·.2) this
  .rcases F z j with j|⟨p,j⟩<;>rcases F B u with u|⟨qq,u⟩
   .exact M.uniq z j B u H
   .obtain⟨b,A,_⟩:=(E _ u).2.old;have t:=R z j;rw[H]at t;rw[show look st.bl B.1=_ from A]at t;cases t
   .obtain⟨b,A,_⟩:=(E _ j).2.old;have t:=R B u;rw[<-H]at t;rw[show look st.bl z.1=_ from A]at t;cases t
   .exact n7 (·.2) (qj _ j _ u H)
  .rcases F z j with j|⟨p,j⟩
   .exact .inl (R z j)
   .exact .inr ⟨(E _ j).2.hv,(E _ j).2.old⟩
  .rw[dt]at O;cases D:look (lJ d (m2 m) rs y 0).2 i with
   |some x =>
    rw[D]at O;cases O;rw[N]at D;obtain⟨v,qt⟩:=adO D;exact .inl ⟨v,by simp[qt]⟩
   |none =>
    rw[D]at O;rcases qg i b O with ⟨z,j,rfl,rfl⟩|⟨A,t,s⟩
    .exact .inl ⟨z.2.2.2,List.mem_append_right _ (EY.2 ⟨z,j,rfl⟩)⟩
    .refine .inr ⟨fun z j=>?_,s,fun g n=>?_⟩
     .rcases F z j with j|⟨p,j⟩
      .rintro rfl;rw[R z j]at s;cases s
      .exact A _ j
     .unfold cg;rw[n];exact abQ t
  .rw[dt];cases D:look (lJ d (m2 m) rs y 0).2 i with
   |some x=>rfl|none=>exact qh i qn
  .rcases F z j with j|⟨p,j⟩
   .rw[dt,N];have:=kF j;cases D:look (L.map fun z=>(z.1,some z.2.1)) z.1 with
    |some x=>rfl|none=>rw[D]at this;cases this
   .rw[dt];cases D:look (lJ d (m2 m) rs y 0).2 z.1 with
    |some x=>rfl|none=>exact qi _ j
  .refine .inr ⟨fun qx g qy H=>(by cases H),D,?_⟩;obtain⟨cs,e,_,t,_⟩:=h.bx W l D;unfold cg;rw[t]
 obtain⟨hinv,qu⟩:=h.back qm;have hrel:=ql.imp fun c v qv=>VL qu (ax3.JY (L':=L++L2.map (·.2)) (fun z j=>by simp[j]) qv)
 exact⟨_,hinv,hrel⟩
def anE (h:Inv w0 G st a w){ok:Nat->Prop}{w':World}{rs:List (Ty×Bool)}{m:Nat}{y:Args rs}{us:List Value}(dd:∀g,ok g->RO G false g){all:List AC}{bQ:Nat->Option Nat}
  (lU:∀g e,bQ g=some e->w.heap.size<=g\/(cg G all g).isSome=true) (f:eE rs=true)
  (j:o9 w' (fun g=>bQ g=none/\((G.nw g/\(G.own g=none\/(cg G all g).isSome=true))\/(m2 m=false/\ok g))) bQ rs y 0 us) (l:eX (fun g=>(cg G all g).isSome=true) w w') {d:Tmp}
  (n:Nat.blt d st.nt=true) (p:fV (lJ d (m2 m) rs y 0).2 st=true) {bl3:List (Nat×Option fK)} {L2:List (Nat×Nat×fK×Value)}
  (q:∀i b,look bl3 i=some (some b)->(∃z∈L2,z.2.1=i/\z.2.2.1=b)\/((∀z∈L2,z.2.1≠i)/\i ∉ iK all/\look st.bl i=some (some b))) (s:∀i,(look st.bl i).isSome=true->(look bl3 i).isSome=true)
  (t:∀z∈L2,(look bl3 z.2.1).isSome=true) (u:∀z∈L2,∀c∈L2,z.2.1=c.2.1->z=c)
  (v:∀z∈L2,nOf rs<=z.1/\avq w' (fun g=>bQ g=none/\((G.nw g/\(G.own g=none\/(cg G all g).isSome=true))\/(m2 m=false/\ok g))) (m2 m) bQ G st z) (x:∀z∈L2,∀c∈L2,z.1=c.1->z=c)
  (A:k {(st.put d (JV (lJ d (m2 m) rs y 0).1)) with bl:=(lJ d (m2 m) rs y 0).2++bl3}=some r) (B:rD w0 k r K):K (a.put (some d) (fk us)) w':=by
 obtain⟨D,hinv,hrel⟩:=ZR h dd lU f j l p q s t u v x;have C:=hinv.put d (gJ n) (x5 (R:=fun _ _=>True) hrel);exact B _ _ _ _ C A
def aEv {L:List (Nat×Nat×fK×Value)}{i:Nat}:∀{x:Option fK},look (L.map fun z=>(z.2.1,some z.2.2.1)) i=some x->∃z∈L,z.2.1=i/\x=some z.2.2.1:=by
 induction L with
 |nil=>intro x h;simp[look]at h
 |cons z L c =>
  intro x h;rw[sZ,au]at h;by_cases b:z.2.1=i
  .rw[ag b]at h;exact⟨z,by simp,b,(eR h).symm⟩
  .rw[af b]at h;obtain⟨y,d,e⟩:=c h;exact⟨y,by simp[d],e⟩
def VM {L:List (Nat×Nat×fK×Value)}{i:Nat}(h:look (L.map fun z=>(z.2.1,some z.2.2.1)) i=none):∀z∈L,z.2.1≠i:=by
 induction L with
 |nil=>intro z b;simp at b
 |cons y L d =>
  rw[sZ,au]at h;by_cases c:y.2.1=i
  .rw[ag c]at h;cases h
  .rw[af c]at h;intro z b;rcases cS.1 b with rfl|b
   .exact c
   .exact d h z b
def aEw {bx:List (Nat×List AC)}{bl:List (Nat×Option fK)}{p:Ty×Bool}{c:CV}{u:Value}{f:p.1.D}(g:eF G w bx bl c u)(hi:imV st p c=some f) :
  ∃d,im st p.1 c.cells=some (f,[])/\ch (bC G w bx bl) c.cells d/\u=(match p.2 with|true=>.agg d.toArray|false=>d.headD undef)/\(p.2=false->d.length=1):=by
 obtain⟨t,b⟩:=p;cases c with
 |agg l =>
  cases b with
  |false=>simp[imV]at hi
  |true =>
   simp only[imV]at hi;split at hi
   .rename_i z e;cases hi;obtain⟨d,h,hrel⟩:=g;exact⟨d.toList,e,hrel,by rw[h,xJ],fun i=>by cases i⟩
   .cases hi
 |c x =>
  cases b with
  |true=>simp[imV]at hi
  |false =>
   simp only[imV]at hi;split at hi
   .rename_i z e;cases hi;exact⟨[u],e,⟨g,trivial⟩,rfl,fun _=>rfl⟩
   .cases hi
def Ml (c:CV):aU [c]=c.cells:=by simp[aU]
def ax5 (h:Inv w0 G st a w){ok:Nat->Prop}{w':World}{rs:List (Ty×Bool)}{m:Nat}{q:Ty×Bool}{y:Args rs}{y2:q.1.D}{us:List Value}{u:Value}(dd:∀g,ok g->RO G false g){c:CV}{f:Bool}{bQ:Nat->Option Nat}
  (Z:eF G w st.bx st.bl c u) {qd:q.1.D} (qe:imV st q c=some qd) (qf:gH st (pmM f) [] c.cells=true)
  (lU:∀g qg,bQ g=some qg->w.heap.size<=g\/(cg G (aU [c]) g).isSome=true)
  (qh:o9 w' (fun g=>bQ g=none/\((G.nw g/\(G.own g=none\/(cg G (aU [c]) g).isSome=true))\/(m2 m=false/\ok g))) bQ [q] (y2,()) (nOf rs) [u])
  (qi:o9 w' (fun g=>bQ g=none/\((G.nw g/\(G.own g=none\/(cg G (aU [c]) g).isSome=true))\/(m2 m=false/\ok g))) bQ rs y 0 us)
  (qj:eX (fun g=>(cg G (aU [c]) g).isSome=true) w w') (qk:eE rs=true) {d:Tmp} (ql:fV (lJ d (m2 m) rs y 0).2 st=true) :
  ∃N,Inv w0 N {st with bl:=(lJ d (m2 m) rs y 0).2++((tg (m2 m) q.1 y2 c.cells).1++st.bl)} a w'/\ch (eF N w' st.bx ((lJ d (m2 m) rs y 0).2++((tg (m2 m) q.1 y2 c.cells).1++st.bl))) (lJ d (m2 m) rs y 0).1 us:=by
 have O:=Yx (st:=st) (m:=pmM f) (by cases f<;>simp[pmM]) qf;have qm:=Ml c;obtain⟨v,qB,C,⟨cs,hfr,j⟩,_⟩:=qh;have qn:v=u:=(tz C).1.symm;subst qn;obtain⟨R,S,hrel,p,hlen⟩:=aEw Z qe;have qo:R=cs++[]:=by
  rw[fi];cases H:q.2 with
  |true =>
   rw[H]at p j;rw[p]at j;have:=Value.agg.inj j;simpa using n7 Array.toList this
  |false =>
   rw[H]at p j;have h1:=hlen H;have s:cs.length=1:=by have qp:=FrC.len hfr;obtain⟨qC,qq,B,qt,qu,_⟩:=Ps (ok:=fun _=>True) (aIl h) hrel S;have qv:=qt.len;have qw:=ch.len qu;have:qq=[]:=ZJ qw.symm;subst this;rw[fi]at B;subst B;rw[qp,<-qv];exact h1
   match R,cs,h1,s,p,j with
   |[T],[W],_,_,p,j =>
    have:T=W:=by have qx:v=T:=p;have t:v=W:=j;rw[<-qx,<-t]
    rw[this]
 obtain⟨qD,L,A,_,_,t,I,M,X⟩:=agK (f:=m2 m) S hrel O.2.2 hfr qo;rw[fi]at A;have qy:∀z∈L,∀D∈L,z.2.1=D.2.1->z=D:=by
  have E:(L.map (·.2.1)).Nodup:=by rw[I,<-A];exact O.1
  intro z e D qz C;clear t I M X
  induction L with
  |nil=>simp at e
  |cons q L qA =>
   rw[sZ,au0]at E;rcases cS.1 e with A|h1<;>rcases cS.1 qz with B|s
   .rw[A,B]
   .exact absurd (EY.2 ⟨D,s,by rw[<-C,A]⟩) E.1
   .exact absurd (EY.2 ⟨z,h1,by rw[C,B]⟩) E.1
   .exact qA E.2 h1 s
 refine ZR h dd lU qk qi qj ql (L2:=L) (bl3:=(tg (m2 m) q.1 y2 c.cells).1++st.bl) (fun i b l=>?_) (fun i F=>?_) (fun z e=>?_) qy (fun z e=>⟨(M z e).1,(M z e).2.2⟩) X
 .rw[t,dt]at l;cases n:look (L.map fun z=>(z.2.1,some z.2.2.1)) i with
  |some x =>
   rw[n]at l;dsimp only at l;obtain⟨z,e,h1,s⟩:=aEv n;rw[s]at l;exact .inl ⟨z,e,h1,eR (eR l)⟩
  |none =>
   rw[n]at l;have Y:=VM n;refine .inr ⟨Y,fun F=>?_,l⟩;rw[qm,A,<-I]at F;obtain⟨z,e,rfl⟩:=EY.1 F;exact Y z e rfl
 .rw[t,dt];cases n:look (L.map fun z=>(z.2.1,some z.2.2.1)) i with
  |some x=>rfl|none=>exact F
 .rw[t,dt];cases n:look (L.map fun z=>(z.2.1,some z.2.2.1)) z.2.1 with
  |some x=>rfl|none=>exact absurd rfl (VM n z e)
def atp (h:Inv w0 G st a w){con:Po}{f:Bool}(I:con.pm=.own f){ok:Nat->Prop}{w':World}{g0:Nat}{u:Value}{y:Args con.rs×Args con.qs}{us:List Value}(dd:∀g,ok g->RO G false g){c:CV}
  (L:eF G w st.bx st.bl c u) {p:Ty×Bool} (M:nk con.ps con.i=some p) (N:aEt con) {O:p.1.D} (S:imV st p c=some O) (t:gH st (pmM f) [] c.cells=true)
  (n:anz con w w' ok (fun g=>G.nw g/\(G.own g=none\/(cg G (aU [c]) g).isSome=true)) (cg G (aU [c])) g0 u y us) (v:eX (fun g=>(cg G (aU [c]) g).isSome=true) w w') {d:Tmp}
  (j:adw con.rs con.qs con.m st c d y k=some r) (x:rD w0 k r K):K (a.put (some d) (fk us)) w':=by
 obtain⟨bQ,lU,A,n⟩:=n;rw[I]at A;obtain⟨qe,i,pm,rs,m,qf,g⟩:=con;dsimp only at *;unfold adw at j;obtain⟨B,j⟩:=aX j;simp only[aF,kB]at B;obtain⟨⟨⟨T,C⟩,D⟩,E⟩:=B;have W:m=2\/m=3:=T.imp aP aP;have F:o9 w' (fun g=>bQ g=none/\((G.nw g/\(G.own g=none\/(cg G (aU [c]) g).isSome=true))\/(m2 m=false/\ok g))) bQ rs y.1 0 us:=by rcases W with rfl|rfl<;>exact n
 have qg:=Yx (st:=st) (m:=pmM f) (by cases f<;>simp[pmM]) t;have X:=Ml c;split at j
 ·
  refine anE h dd lU E F v D C (L2:=[]) (bl3:=(st.gone c.cells).bl) (fun i b l=>.inr ?_) (fun i Y=>?_) (fun z e=>by simp at e) (fun z e=>by simp at e) (fun z e=>by simp at e) (fun z e=>by simp at e) j x
  .rw[agJ]at l;split at l
   .cases l
   .exact⟨fun z e=>by simp at e,by rw[X];assumption,l⟩
  .rw[agJ];split
   .rfl
   .exact Y
 ·
  rename_i q y qh;have Z:q=p:=by
   rcases N with s|⟨qi,s,H⟩
   .cases s
   .cases s;rw[M]at H;exact(eR H).symm
  subst Z;obtain⟨qj,hinv,hrel⟩:=ax5 (q:=q) (y2:=y.2.1) h dd L S t lU A F v E C;have qd:=hinv.put d (gJ D) (x5 (R:=fun _ _=>True) hrel);exact x _ _ _ _ qd j
 .cases j
def cF (g0:Nat)(g:Nat):Option Nat:=if g=g0 then some 0 else none
def pX {g0 g:Nat}(h:g≠g0):cF g0 g=none:=by simp[cF,h]
def rF (h:Inv w0 G st a w){b:Nat}{O:List AC}(qf:look st.bx b=some O){w':World}{bQ:Nat->Option Nat}
  (lU:∀g m,bQ g=some m->w.heap.size<=g\/(cF (G.hb b) g).isSome=true) (qg:eX (fun g=>(cF (G.hb b) g).isSome=true) w w') {p:Ty×Bool} {z:p.1.D} {cs:Array Value} {e:TypeId} {n:Nat}
  (qh:∃m,bQ (G.hb b)=some m/\n<=m) (qi:w'.heap[G.hb b]?=some (.cells cs e (0,0)))
  {R S:Nat->Prop} {fb f:Bool} (qj:∀g,R g->(G.nw g/\(G.own g=none\/(cF (G.hb b) g).isSome=true))\/(fb=false/\RO G false g))
  (qk:∀g,S g->(G.nw g/\(G.own g=none\/(cF (G.hb b) g).isSome=true))\/(f=false/\RO G false g))
  (ql:Rd w' (fun g=>bQ g=none/\R g) p.1 z cs.toList) {q:List (Nat×Option fK)} {B:List (Nat×fK×Value)} {d:Nat}
  (F:Fr w' (fun g=>bQ g=none/\S g) f bQ d 0 (0+n) q B) (qm:fV q st=true) :
  Inv w0 (G.back w.heap.size (cF (G.hb b)) bQ B (some (b,G.hb b,ex fb p.1 z))) {st with bx:=(b,ex fb p.1 z)::st.bx,bl:=q++st.bl} a w' /\
   ∀c v,ti B c v->bC (G.back w.heap.size (cF (G.hb b)) bQ B (some (b,G.hb b,ex fb p.1 z))) w' ((b,ex fb p.1 z)::st.bx) (q++st.bl) c v:=by
 obtain⟨qy,qz,_,bp,_⟩:=h.bx b O qf;have L:=F.q;have T:∀g m,cF (G.hb b) g=some m->(G.own g).isSome=true:=by
  intro g m j;unfold cF at j;split at j
  .rename_i A;rw[A,bp];rfl
  .cases j
 have qn:∀g m,cF (G.hb b) g=some m->G.own g≠some .hid:=by
  intro g m j;unfold cF at j;split at j
  .rename_i A;rw[A,bp];simp
  .cases j
 have W:∀z∈B,look st.bl z.1=none:=fun z M=>Da qm z.1 (by rw[L];exact kF M)
 have N:∀z∈B,∀g,z.2.2.ownBlock=some g->∃m,bQ g=some m/\m<n/\z.1=d*64+m:=by intro z M g j;obtain⟨C,D,u⟩:=F.rows z M;exact⟨_,u.rA g j,by omega,by omega⟩
 refine h.back (okE:=fun f g=>bQ g=none/\((G.nw g/\(G.own g=none\/(cF (G.hb b) g).isSome=true))\/(f=false/\RO G false g))) ⟨qg,T,qn,lU,fun f g j=>J5 h T _ _ f g j,fun y t=>?_,fun y t X Y g j qo=>?_,F.uniq,
  fun y t=>.inl (W y t),fun i qp E=>?_,fun i qq=>?_,fun y t=>?_,fun H l s=>?_,fun H qt=>wK _ trivial qt,fun H g l A=>?_⟩
 .obtain⟨C,D,u⟩:=F.rows y t;obtain⟨rows,Z,qu⟩:=u.row;refine⟨u.wr,u.pos,⟨rows,Z,agG (fun qv g j=>⟨j.1,?_⟩) qu⟩,fun g j=>by rw[u.rA g j];rfl⟩;rw[u.nf,qv,anb];exact qk g j.2
 .obtain⟨m,C,_,D⟩:=N y t g j;obtain⟨qw,u,_,Z⟩:=N X Y g qo;rw[C]at u;cases u;exact F.uniq y t X Y (by omega)
 .rw[dt]at E;cases s:look q i with
  |some x =>
   rw[s]at E;cases E;rw[L]at s;obtain⟨v,qx⟩:=adO s;exact .inl ⟨v,qx⟩
  |none =>
   rw[s]at E;refine .inr ⟨fun y t=>?_,E,fun g j=>?_⟩
   .rintro rfl;have qd:look st.bl y.1=some (some qp):=E;rw[W y t]at qd;cases qd
   .refine pX ?_;rintro rfl;rw[bp]at j;cases j
 .rw[dt];cases s:look q i with
  |some x=>rfl|none=>exact qq
 .rw[dt,L];have:=kF t;cases s:look (B.map fun z=>(z.1,some z.2.1)) y.1 with
  |some x=>rfl|none=>rw[s]at this;cases this
 .rw[au]at s;by_cases I:b=H
  .subst I;rw[ag rfl]at s;cases s;exact .inl ⟨_,rfl⟩
  .rw[af I]at s;refine .inr ⟨fun qA g qB A=>(by cases A;exact I),s,?_⟩;obtain⟨cs,e,_,D,_⟩:=h.bx H l s;refine pX ?_;intro A;rw[A,bp]at D;cases D;exact I rfl
 .cases A;obtain⟨m,qe,qC⟩:=qh;refine⟨by simp[au],.inr rfl,⟨by rw[qe];rfl,fun y t j=>?_⟩,cs,e,fb,p.1,z,qi,rfl,iJ (fun g j=>⟨j.1,qj g j.2⟩) ql⟩;obtain⟨qw,C,D,_⟩:=N y t _ j;rw[qe]at C;cases C;omega
def aF7 (h:Inv w0 G st a w){con:Po}(N:con.pm=.box){ok:Nat->Prop}{w':World}{u:Value}{y:Args con.rs×Args con.qs}{us:List Value}(dd:∀g,ok g->RO G false g){b qj:Nat}{A:List AC}(t:look st.bx b=some A)
  {p:Ty×Bool} (O:nk con.ps con.i=some p) (S:p.2=true) (T:aEt con)
  (x:anz con w w' ok (fun g=>G.nw g/\(G.own g=none\/(cF (G.hb b) g).isSome=true)) (cF (G.hb b)) (G.hb b) u y us) (B:eX (fun g=>(cF (G.hb b) g).isSome=true) w w') {d:Tmp}
  (l:amC con.rs con.qs con.m st (.c (.ptr b qj)) d y k=some r) (C:rD w0 k r K):K (a.put (some d) (fk us)) w':=by
 obtain⟨bQ,lU,I,x⟩:=x;rw[N]at I;obtain⟨D,cs,e,E,W⟩:=I;obtain⟨qk,i,pm,rs,m,ql,g⟩:=con;dsimp only at *;unfold amC at l;split at l
 .rename_i _ q y qm qn F;cases F;have X:q=p:=by
   rcases T with s|⟨qo,s,M⟩
   .cases s
   .cases s;rw[O]at M;exact(eR M).symm
  subst X;have H:=aAY S W;have nil:Fr w' (fun g=>bQ g=none/\((G.nw g/\(G.own g=none\/(cF (G.hb b) g).isSome=true))\/(false=false/\ok g))) false bQ d 0 (0+nOf rs) [] []:=Fr.nil;split at l
  .obtain⟨n,l⟩:=aX l;rw[aF]at n;obtain⟨hinv,_⟩:=rF (fb:=false) (f:=false) h t lU B D E (fun g j=>j.imp_right fun h=>⟨rfl,dd g h⟩) (fun g j=>j.imp_right fun h=>⟨h.1,dd g h.2⟩) H nil rfl;have hrel:=Db (f:=false) (bx:=(b,ex false q.1 y.2.1)::st.bx) (bl:=[]++st.bl) n.2 (km (fun g j=>J5 (bQ:=bQ) h (own0:=cF (G.hb b)) (fun g Y j=>by
    obtain⟨_,_,_,bp,_⟩:=h.bx b A t;unfold cF at j;split at j
    .rename_i s;rw[s,bp];rfl
    .cases j) [] (some (b,G.hb b,ex false q.1 y.2.1)) false g ⟨j.1,j.2.imp_right fun h=>⟨rfl,dd g h⟩⟩) x)
   have z:=hinv.put d (gJ n.1) (x5 (R:=fun _ _=>True) hrel);exact C _ _ _ _ z l
  .obtain⟨n,l⟩:=aX l;rw[aF]at n;obtain⟨hinv,_⟩:=rF (fb:=false) (f:=false) h t lU B D E (fun g j=>j.imp_right fun h=>⟨rfl,dd g h⟩) (fun g j=>j.imp_right fun h=>⟨h.1,dd g h.2⟩) H nil rfl;have hrel:=Db (f:=true) (bx:=(b,ex false q.1 y.2.1)::st.bx) (bl:=[]++st.bl) n.2 (km (fun g j=>J5 (bQ:=bQ) h (own0:=cF (G.hb b)) (fun g Y j=>by
    obtain⟨_,_,_,bp,_⟩:=h.bx b A t;unfold cF at j;split at j
    .rename_i s;rw[s,bp];rfl
    .cases j) [] (some (b,G.hb b,ex false q.1 y.2.1)) true g ⟨j.1,.inl j.2⟩) x)
   have z:=hinv.put d (gJ n.1) (x5 (R:=fun _ _=>True) hrel);exact C _ _ _ _ z l
  .obtain⟨n,l⟩:=aX l;simp only[aF,kB]at n;obtain⟨⟨⟨Z,qd⟩,qe⟩,qf⟩:=n;have qg:o9 w' (fun g=>bQ g=none/\((G.nw g/\(G.own g=none\/(cF (G.hb b) g).isSome=true))\/(m2 m=false/\ok g))) bQ rs y.1 0 us:=by rcases Z.imp aP aP with rfl|rfl<;>exact x
   obtain⟨L,qh,F⟩:=adN (id:=d) (f:=m2 m) qf qg;obtain⟨hinv,qi⟩:=rF (fb:=false) h t lU B D E (fun g j=>j.imp_right fun h=>⟨rfl,dd g h⟩) (fun g j=>j.imp_right fun h=>⟨h.1,dd g h.2⟩) H qh qd;have hrel:=F.imp fun c v n=>VL qi n
   have z:=hinv.put d (gJ qe) (x5 (R:=fun _ _=>True) hrel);exact C _ _ _ _ z l
 .cases l
def nwC (G:Gh)(c:Bool)(b g:Nat):Prop:=(G.nw g/\(G.own g=none\/(cF (G.hb b) g).isSome=true))\/(c=false/\RO G false g)
def aF8 (h:Inv w0 G st a w){con:Po}(W:con.pm=.cur){ok:Nat->Prop}{w':World}{u:Value}{y:Args con.rs×Args con.qs}{us:List Value}(dd:con.m=1\/con.m=2\/∀g,ok g->RO G false g){b qn:Nat}{B:List AC}(x:look st.bx b=some B)
  {p:Ty×Bool} (X:nk con.ps con.i=some p) (Y:p.2=true) (Z:aEt con)
  (t:anz con w w' ok (nwC G (cj B) b) (cF (G.hb b)) (G.hb b) u y us) (D:eX (fun g=>(cF (G.hb b) g).isSome=true) w w') {d:Tmp}
  (n:amD con.rs con.qs con.m st (.c (.ptr b qn)) d y k=some r) (E:rD w0 k r K):K (a.put (some d) (fk us)) w':=by
 obtain⟨bQ,lU,M,t⟩:=t;rw[W]at M;obtain⟨F,cs,e,H,N⟩:=M;obtain⟨qo,i,pm,rs,m,qp,g⟩:=con;dsimp only at *;have O:∀g S,cF (G.hb b) g=some S->(G.own g).isSome=true:=by
  intro g S j;obtain⟨_,_,_,bp,_⟩:=h.bx b B x;unfold cF at j;split at j
  .rename_i z;rw[z,bp];rfl
  .cases j
 unfold amD at n;split at n
 .rename_i _ q y qq qt I;cases I;have qd:q=p:=by
   rcases Z with z|⟨qu,z,T⟩
   .cases z
   .cases z;rw[X]at T;exact(eR T).symm
  subst qd;have C:=aAY Y N;rw[x]at n;dsimp only at n;generalize cj B=l at n C t N;have nil:Fr w' (fun g=>bQ g=none/\(nwC G l b g)) l bQ d 0 (0+nOf rs) [] []:=Fr.nil;split at n
  .obtain⟨s,n⟩:=aX n;rw[aF]at s;obtain⟨hinv,_⟩:=rF (fb:=l) (f:=l) h x lU D F H (fun g j=>j) (fun g j=>j) C nil rfl;have qe:∀g,ok g->RO G false g:=by
    rcases dd with h1|h1|h1
    .cases h1
    .cases h1
    .exact h1
   have hrel:=Db (f:=false) (bx:=(b,ex l q.1 y.2.1)::st.bx) (bl:=[]++st.bl) s.2 (km (fun g j=>J5 (bQ:=bQ) h (own0:=cF (G.hb b)) O [] (some (b,G.hb b,ex l q.1 y.2.1)) false g ⟨j.1,by
    rcases j.2 with h1|h1
    .exact h1.imp_right fun h=>⟨rfl,h.2⟩
    .exact .inr ⟨rfl,qe g h1⟩⟩) t)
   have A:=hinv.put d (gJ s.1) (x5 (R:=fun _ _=>True) hrel);exact E _ _ _ _ A n
  .obtain⟨s,n⟩:=aX n;rw[aF]at s;obtain⟨hinv,_⟩:=rF (fb:=l) (f:=l) h x lU D F H (fun g j=>j) (fun g j=>j) C nil rfl;have hrel:=Db (f:=l) (bx:=(b,ex l q.1 y.2.1)::st.bx) (bl:=[]++st.bl) s.2 (km (fun g j=>J5 (bQ:=bQ) h (own0:=cF (G.hb b)) O [] (some (b,G.hb b,ex l q.1 y.2.1)) l g ⟨j.1,j.2⟩) t);have A:=hinv.put d (gJ s.1) (x5 (R:=fun _ _=>True) hrel);exact E _ _ _ _ A n
  .obtain⟨s,qf⟩:=aX n;simp only[aF]at s;obtain⟨⟨⟨qg,qh⟩,qi⟩,qj⟩:=s;cases aP qg;have qk:o9 w' (fun g=>bQ g=none/\nwC G l b g) bQ rs y.1 0 us :=
    o9.aJF (fun g j=>⟨j.1,j.2.elim (fun h=>h) fun h=>by cases h.1⟩) t
   obtain⟨L,ql,I⟩:=adN (id:=d) (f:=l) qj qk;obtain⟨hinv,qm⟩:=rF (fb:=l) h x lU D F H (fun g j=>j) (fun g j=>j) C ql qh;have hrel:=I.imp fun c v s=>VL qm s
   have A:=hinv.put d (gJ qi) (x5 (R:=fun _ _=>True) hrel);exact E _ _ _ _ A qf
 .cases n
def aC2 {i:Nat}{os:List Operand}{o:Operand}(h:nk os i=some o):arI st i os=st.eb o:=by unfold arI;rw[h]
def amH {st:St}{p:Ty×Bool}{l:List AC}{y:p.1.D}(h:imV st p (.agg l)=some y):p.2=true/\im st p.1 l=some (y,[]):=by
 obtain⟨t,b⟩:=p;cases b with
 |false=>simp[imV]at h
 |true =>
  simp only[imV]at h;split at h
  .rename_i z c;cases h;exact⟨rfl,c⟩
  .cases h
def abR {st:St}{pm:PM}:∀(i:Nat) (ps:List (Ty×Bool)) (os:List Operand) (x:Args ps),j6 st pm i ps os=some x->∃op p y,nk os i=some op/\nk ps i=some p/\im2 st pm p op=some y
 |0,[],os,x,b=>by cases os<;>simp[j6]at b
 |_+1,[],os,x,b=>by cases os<;>simp[j6]at b
 |0,p::ps,[],x,b=>by simp[j6]at b
 |_+1,p::ps,[],x,b=>by simp[j6]at b
 |0,p::ps,o::os,x,b=>by
  simp only[j6]at b;split at b
  .rename_i y c;exact⟨o,p,y,rfl,rfl,c⟩
  .cases b
 |i+1,p::ps,o::os,x,b=>by
  simp only[j6]at b;split at b
  .split at b
   .rename_i d e;exact abR i ps os d e
   .cases b
  .cases b
def agL:∀{l:List AC},wI l=true->∀id len,AC.own id len ∉ l
 |[],_,id,len=>by simp
 |c::l,h,id,len=>by
  cases c with
  |own i b=>simp[wI]at h|_=>simp[agL (l:=l) h]
def aAZ {f:FuncId}{con:Po}(ql:abO P w0 f con)(h:Inv w0 G st a w){args:List Operand}{d:Tmp}{x:Args con.ps}{y:Args con.rs×Args con.qs}(j:con.g x=some y)(qh:j6 st con.pm con.i con.ps args=some x)
  (D:(con.pm=.cur/\(con.m=1\/con.m=2))\/∀t c v xs,c∈gI st con.pm con.i args->bC G w st.bx st.bl c v->cy st t c=some xs->∀e,Rd w (RO G false) (.sl e t) xs [v])
  (z:(match con.pm with
   |.rd=>match rdM con.m with
    |some f=>au3 f con.rs st d y.1 k|none=>none
   |.own _=>adw con.rs con.qs con.m st (arI st con.i args) d y k|.box=>amC con.rs con.qs con.m st (arI st con.i args) d y k|.cur=>amD con.rs con.qs con.m st (arI st con.i args) d y k)=some r) (qt:rD w0 k r K) :
  Calls P f (args.map a.eval).toArray w fun e qi=>∃v,e=.returned v/\K (a.put (some d) v) qi/\∀(s:Operand) (g0:Nat),(con.pm=.box\/con.pm=.cur)->nk args con.i=some s->a.eval s=.pointer (some ⟨g0,0,none⟩)->∀k,k<w.heap.size->k≠g0->qi.heap[k]?=w.heap[k]?:=by
 have qw:=ql.2.1;obtain⟨s,p,qx,S,qy,qu⟩:=abR con.i con.ps args x qh;rw[aC2 S]at z;cases A:con.pm with
 |rd =>
  have D:=D.resolve_left fun h=>by rw[A]at h;cases h.1
  rw[A]at z qu;dsimp only at z;split at z
  .rename_i qf qd;obtain⟨_,_,_,_,_,qe⟩:=B8 (ok:=RO G false) (nw:=fun g=>G.nw g/\(G.own g=none\/(none:Option Nat).isSome=true)) (own0:=fun _=>none) (g0:=0) h con.i con.ps args x D qh (fun p s y I qj n N=>by have N:=N A;rw[A]at n ⊢;exact avp h N n)
   obtain⟨O,L,T,_,_,qe⟩:=B8 (ok:=RO G false) (nw:=fun g=>G.nw g/\(G.own g=none\/(none:Option Nat).isSome=true)) (own0:=fun _=>none) (g0:=0) h con.i con.ps args x D qh (fun p s y I qj n N=>by have N:=N A;rw[A]at n ⊢;exact avp h N n)
   refine Calls.mono (ql.2.2 x y j w h.below _ _ _ 0 _ _ (Pw h (own0:=fun _=>none) fun g R qk=>by cases qk) qe) fun e qi C=>?_
   obtain⟨us,rfl,W,X⟩:=C;exact⟨_,rfl,aIm h (fun g j=>j) qd W X z qt,fun _ _ q=>by rcases q with q|q<;>cases q⟩
  .cases z
 |own qf =>
  have D:=D.resolve_left fun h=>by rw[A]at h;cases h.1
  rw[A]at z;dsimp only at z;have key:∀p s y,im2 st con.pm p s=some y->gH st (pmM qf) [] (st.eb s).cells=true/\x0 st [p] [st.eb s]=true/\im1 st p s=some y:=by
   intro p s y n;rw[A]at n;simp only[im2]at n;split at n
   .rename_i M;rw[aF]at M;exact⟨M.1,M.2,n⟩
   .cases n
  obtain⟨O,L,T,_,_,qe⟩:=B8 (ok:=RO G false) (nw:=fun g=>G.nw g/\(G.own g=none\/(cg G (aU [st.eb s]) g).isSome=true)) (own0:=cg G (aU [st.eb s])) (g0:=0) h con.i con.ps args x D qh (fun L B y I qj n N=>by
   obtain⟨qz,qO,qA⟩:=key L B y n;have:B=s:=by rw[S]at I;exact(eR I).symm
   subst this;rw[A];have qR:∀g,RO G (m2 (pmM qf)) g->cg G (aU [st.eb B]) g=none/\((G.nw g/\(G.own g=none\/(cg G (aU [st.eb B]) g).isSome=true))\/(qf=false/\RO G false g)):=by
    intro g j;refine⟨by simp[cg,j.1],?_⟩;rcases j.2 with qv|qv
    .exact .inl ⟨qv,.inl j.1⟩
    .refine .inr ⟨?_,j.1,.inr ⟨rfl,qv.2⟩⟩;cases qf with
     |false=>rfl|true=>cases qv.1
   obtain⟨W,_⟩:=HZ (m:=pmM qf) (by cases qf<;>simp[pmM]) qR h (aU [st.eb B]) [] [L] [st.eb B] [a.eval B] (y,()) (pre:=[]) (seen:=[]) ⟨h.eb B,trivial⟩ (by simp) (fun id len qd=>by simp at qd) (by rw[fi,Ml];exact qz) qO (by have:imV st L (st.eb B)=some y:=qA;simp[B4,this])
   obtain⟨v,xe,C,Y,_⟩:=W;cases C;exact Y)
  obtain⟨qz,qO,qA⟩:=key p s qx qu;have:O=s:=by rw[S]at T;exact(eR T).symm
  subst this;refine Calls.mono (ql.2.2 x y j w h.below _ _ _ 0 _ _ (Pw h (own0:=cg G (aU [st.eb O])) fun g R qk=>Yy qk) qe) fun e qi C=>?_
  obtain⟨us,rfl,W,X⟩:=C;exact⟨_,rfl,atp h A (fun g j=>j) (h.eb O) qy qw qA qz W X z qt,fun _ _ q=>by rcases q with q|q<;>cases q⟩
 |cur =>
  rw[A]at z;dsimp only at z;have key:∀p s y,im2 st con.pm p s=some y->∃b l,st.eb s=.c (.ptr b 0)/\look st.bx b=some l/\wI l=true/\imV st p (.agg l)=some y:=by
   intro p s y n;rw[A]at n;simp only[im2]at n;split at n
   .rename_i b E;split at n
    .rename_i l F;split at n
     .rename_i qB;exact⟨b,l,E,F,qB,n⟩
     .cases n
    .cases n
   .cases n
  obtain⟨b,l,E,F,qB,qC⟩:=key p s qx qu;have qD:p.2=true:=(amH qC).1;obtain⟨cs,e,qE,bp,hrel⟩:=h.bx b l F;have qF:∀g R,cF (G.hb b) g=some R->(G.own g).isSome=true:=by
   intro g R j;unfold cF at j;split at j
   .rename_i C;rw[C,bp];rfl
   .cases j
  obtain⟨ok,qS,qT,D⟩:∃ok:Nat->Prop,(∀g,ok g->cF (G.hb b) g=none)/\(con.m=1\/con.m=2\/∀g,ok g->RO G false g)/\∀t c v xs,c∈gI st con.pm con.i args->bC G w st.bx st.bl c v->cy st t c=some xs->∀e,Rd w ok (.sl e t) xs [v]:=by
   rcases D with ⟨_,h1⟩|h1
   .refine⟨fun g=>∀d,G.own g≠some (.bx d),fun g j=>pX fun C=>j b (by rw[C,bp]),h1.elim .inl fun h=>.inr (.inl h),fun t c v xs _ z H=>kl h z H (fun id len qP _ qW=>⟨fun g j d H=>?_,fun qX g j d H=>?_⟩) fun f e u qQ _ g j d H=>?_⟩
    .rw[j.1]at H;cases H
    .obtain⟨_,_,qj,_⟩:=(h.bl id qP qW).wr qX;rw[qj g j]at H;cases H
    .rw[j.1]at H;cases H
   .refine⟨RO G false,fun g j=>pX fun C=>?_,.inr (.inr fun g j=>j),h1⟩;have:=j.1;rw[C,bp]at this;cases this
  obtain⟨O,L,T,_,_,qe⟩:=B8 (ok:=ok) (nw:=nwC G (cj l) b) (own0:=cF (G.hb b)) (g0:=G.hb b) h con.i con.ps args x D qh (fun L B y I qj n N=>by
   have:B=s:=by rw[S]at I;exact(eR I).symm
   subst this;obtain⟨qY,qZ,qm,qn,_,qG⟩:=key L B y n;rw[E]at qm;cases qm;rw[F]at qn;cases qn;rw[A];have Y:a.eval B=.pointer (some ⟨G.hb b,0,none⟩):=by have:=h.eb B;rw[E]at this;exact this.2
   refine⟨Y,by simp[cF],cs,e,qE,?_⟩;have qH:∀t c v xs,c∈l->bC G w st.bx st.bl c v->cy st t c=some xs->∀e,Rd w (fun g=>cF (G.hb b) g=none/\nwC G (cj l) b g) (.sl e t) xs [v]:=by
    intro t c v xs qd z H;refine kl h z H (fun id len qP M _=>?_) fun f e u qQ M g j=>?_
    .subst M;exact absurd qd (agL qB id len)
    .subst M;refine⟨pX fun C=>?_,?_⟩
     .have:=j.1;rw[C,bp]at this;cases this
     .cases xa:cj l with
      |true =>
       have:=Pt xa f e u qQ qd;subst this;exact .inl ⟨j.2.elim (fun h=>h) fun h=>(by cases h.1),.inl j.1⟩
      |false=>exact .inr ⟨rfl,j.1,j.2.imp_right fun h=>⟨rfl,h.2⟩⟩
   obtain⟨xb,qI,qo,qK,qL,_⟩:=Ps qH hrel (amH qG).2;have:qI=[]:=ZJ qL.len.symm;subst this;rw[fi]at qo;rw[qo];exact qK)
  have:O=s:=by rw[S]at T;exact(eR T).symm
  subst this;have hd0:=Pw h (own0:=cF (G.hb b)) qF;refine Calls.mono (ql.2.2 x y j w h.below ok (nwC G (cj l) b) (cF (G.hb b)) (G.hb b) _ _ ⟨fun g j=>.inl (hd0.lU g j),fun g R qk=>⟨.inl (hd0.bp g R qk).1,(hd0.bp g R qk).2⟩,qS⟩ qe) fun e qi C=>?_
  obtain⟨us,rfl,W,X⟩:=C;rw[E]at z;exact⟨_,rfl,aF8 h A qT F qy qD qw W X z qt,fun qg g0 _ qp Y k qM qN=>X.block k qM (by
   have:qg=O:=by rw[S]at qp;exact(eR qp).symm
   subst this;have q:=h.eb qg;rw[E]at q;have q:a.eval qg=.pointer (some ⟨G.hb b,0,none⟩):=q.2;rw[Y]at q;injection q with q
   injection q with q
   injection q with q
   rw[pX (fun e=>qN (by rw[e,q]))];simp)⟩
 |box =>
  have D:=D.resolve_left fun h=>by rw[A]at h;cases h.1
  rw[A]at z;dsimp only at z;have key:∀p s y,im2 st con.pm p s=some y->∃b l,st.eb s=.c (.ptr b 0)/\look st.bx b=some l/\imV st p (.agg l)=some y:=by
   intro p s y n;rw[A]at n;simp only[im2]at n;split at n
   .rename_i b E;split at n
    .rename_i l F;exact⟨b,l,E,F,n⟩
    .cases n
   .cases n
  obtain⟨b,l,E,F,qC⟩:=key p s qx qu;have qD:p.2=true:=(amH qC).1;have qF:∀g R,cF (G.hb b) g=some R->(G.own g).isSome=true:=by
   intro g R j;obtain⟨_,_,_,bp,_⟩:=h.bx b l F;unfold cF at j;split at j
   .rename_i C;rw[C,bp];rfl
   .cases j
  obtain⟨O,L,T,_,_,qe⟩:=B8 (ok:=RO G false) (nw:=fun g=>G.nw g/\(G.own g=none\/(cF (G.hb b) g).isSome=true)) (own0:=cF (G.hb b)) (g0:=G.hb b) h con.i con.ps args x D qh (fun L B y I qj n N=>by
   have:B=s:=by rw[S]at I;exact(eR I).symm
   subst this;obtain⟨qY,qZ,qm,qn,qG⟩:=key L B y n;rw[E]at qm;cases qm;rw[F]at qn;cases qn;rw[A];obtain⟨cs,e,qE,bp,hrel⟩:=h.bx b l F;have Y:a.eval B=.pointer (some ⟨G.hb b,0,none⟩):=by have:=h.eb B;rw[E]at this;exact this.2
   refine⟨Y,by simp[cF],cs,e,qE,?_⟩;have qH:∀t c v xs,c∈l->bC G w st.bx st.bl c v->cy st t c=some xs->∀e,Rd w (RO G false) (.sl e t) xs [v]:=by
    have xc:∀(i:Nat) (Z:List Operand),nk Z i=some B->∀c∈l,c∈gI st .box i Z:=by
     intro i
     induction i with
     |zero =>
      intro Z qq c M;cases Z with
      |nil=>cases qq
      |cons o Z =>
       cases qq;simp[gI,E,F,M]
     |succ i xd =>
      intro Z qq c M;cases Z with
      |nil=>cases qq|cons o Z=>simp[gI,xd Z qq c M]
    exact fun t c v xs qd=>D t c v xs (by rw[A];exact xc con.i args I c qd)
   obtain⟨xb,qI,qo,qK,qL,_⟩:=Ps qH hrel (amH qG).2;have:qI=[]:=ZJ qL.len.symm;subst this;rw[fi]at qo;rw[qo];exact qK)
  have:O=s:=by rw[S]at T;exact(eR T).symm
  subst this;refine Calls.mono (ql.2.2 x y j w h.below _ _ _ _ _ _ (Pw h qF) qe) fun e qi C=>?_
  obtain⟨us,rfl,W,X⟩:=C;rw[E]at z;exact⟨_,rfl,aF7 h A (fun g j=>j) F qy qD qw W X z qt,fun qg g0 _ qp Y k qM qN=>X.block k qM (by
   have:qg=O:=by rw[S]at qp;exact(eR qp).symm
   subst this;have q:=h.eb qg;rw[E]at q;have q:a.eval qg=.pointer (some ⟨G.hb b,0,none⟩):=q.2;rw[Y]at q;injection q with q
   injection q with q
   injection q with q
   rw[pX (fun e=>qN (by rw[e,q]))];simp)⟩
def aIn {con:Po}{args:List Operand}(h:¬(con.pm=.cur/\(con.m=1\/con.m=2))):aH7 st con args=gI st con.pm con.i args:=by
 unfold aH7;split
 .rename_i b;rw[b]at h ⊢;split
  .exact absurd ⟨rfl,.inl ‹_›⟩ h
  .exact absurd ⟨rfl,.inr ‹_›⟩ h
  .rfl
 .rfl
def adQ {f:FuncId}{con:Po}(m:abO P w0 f con)(h:Inv w0 G st a w){args:Array Operand}{ts:Array TypeId}(A:o.op=.call {callee:=.value (.func f),args:=args,argTypes:=ts})
  (b:adx con st o.dst args.toList k=some r) (B:rD w0 k r K):o.wp P a w (fun C g=>K C g/\∀(z:Operand) (n:Nat),(con.pm=.box\/con.pm=.cur)->nk args.toList con.i=some z->a.eval z=.pointer (some ⟨n,0,none⟩)->∀k,k<w.heap.size->k≠n->g.heap[k]?=w.heap[k]?) Q:=by
 unfold Oper.wp;rw[J4 m.1 A];unfold adx at b;dsimp only at b;obtain⟨I,p,L,M,D⟩:=h.freeze (aH7 st con args.toList);split at b
 .rename_i x i;cases j:con.g x with
  |none=>rw[j]at b;cases b
  |some y =>
   rw[j]at b;simp only[am7]at b;have E:(args.map a.eval)=(args.toList.map a.eval).toArray:=by rw[<-adq,xJ]
   show Calls P f _ w _;rw[E];cases q:o.dst with
   |none=>rw[q]at b;cases b
   |some d =>
    rw[q]at b;dsimp only at b;refine Calls.mono (aAZ m p j i (by
     by_cases s:con.pm=.cur/\(con.m=1\/con.m=2)
     .exact .inl s
     .refine .inr fun t c v xs u=>abP p (nf:=false) (fun l=>by cases l) (fun l=>by cases l) t c v xs ?_
      rw[VK D]at u;rw[aIn s];exact u) b B) fun e g F=>?_
    obtain⟨v,rfl,H,i⟩:=F;exact⟨H,i⟩
 .cases b
def ax6 {f:FuncId}{con:Po}(b:abO P w0 f con)(h:Inv w0 G st a w){args:Array Operand}{ts:Array TypeId}(c:o.op=.call {callee:=.value (.func f),args:=args,argTypes:=ts})
  (d:adx con st o.dst args.toList k=some r) (e:rD w0 k r K):o.wp P a w K Q:=by
 exact Oper.wp_mono (fun _ _ h=>h.1) (adQ b h c d e)
def aA0:∀{t:Ty} {x:t.D},ane t x=true->aKT t x=x
 |.bool,x,h=>Eq.symm h|.int _,x,h=>(bf.1 h).symm|.str,_,h|.unit,_,h|.pair _ _,_,h|.sl _ _,_,h=>by cases h
def aA1:∀{t:Ty} {x:t.D},ane t x=false->aKU t x=x
 |.bool,x,h=>Eq.symm h|.int _,x,_=>rfl|.str,_,_|.unit,_,_|.pair _ _,_,_|.sl _ _,_,_=>rfl
def ax7 {bx:List (Nat×List AC)}{bl:List (Nat×Option fK)}:∀{n:Nat} {vs:List Value},vs.length=n->(∀c∈vs,c.oneCell'=true)->ch (bC G w bx bl) (List.replicate n .any) vs
 |0,[],_,_=>trivial|n+1,v::vs,h,b=>by rw[List.replicate_succ];exact⟨b v (by simp),ax7 (by simpa using h) fun c d=>b c (by simp[d])⟩
 |0,_::_,h,_=>by simp at h
 |_+1,[],h,_=>by simp at h
def ax8 {f:FuncId}{con:Sel}(M:avo P w0 f con)(h:Inv w0 G st a w){args:Array Operand}{ts:Array TypeId}(qj:o.op=.call {callee:=.value (.func f),args:=args,argTypes:=ts})
  (b:au4 con st o.dst args.toList k=some r) (W:rD w0 k r K):o.wp P a w K Q:=by
 unfold Oper.wp;rw[J4 M.1 qj];unfold au4 at b;dsimp only at b;obtain⟨j,l,qk,ql,X⟩:=h.freeze (gI st (.own true) con.i args.toList);have Y:∀t c v xs,c∈gI (st.freeze (gI st (.own true) con.i args.toList)) (.own true) con.i args.toList->bC j w (st.freeze (gI st (.own true) con.i args.toList)).bx (st.freeze (gI st (.own true) con.i args.toList)).bl c v->cy (st.freeze (gI st (.own true) con.i args.toList)) t c=some xs->∀e,Rd w (RO j false) (.sl e t) xs [v] :=
  fun t c v xs C=>abP l (nf:=false) (fun N=>by cases N) (fun N=>by cases N) t c v xs (by rw[VK X]at C;exact C)
 generalize st.freeze (gI st (.own true) con.i args.toList)=i at b l Y;clear qk ql X h;split at b
 .rename_i x Z;cases n:con.g x with
  |none=>rw[n]at b;cases b
  |some y =>
   rw[n]at b;simp only[am7]at b;have qm:(args.map a.eval)=(args.toList.map a.eval).toArray:=by rw[<-adq,xJ]
   show Calls P f _ w _;rw[qm];cases qd:o.dst with
   |none=>rw[qd]at b;cases b
   |some d =>
    rw[qd]at b;dsimp only at b;obtain⟨op,p,qn,O,qe,qo⟩:=abR con.i con.ps args.toList x Z;rw[aC2 O]at b;have key:∀p op y,im2 i (.own true) p op=some y->gH i (pmM true) [] (i.eb op).cells=true/\x0 i [p] [i.eb op]=true/\im1 i p op=some y:=by
     intro p op y A;simp only[im2]at A;split at A
     .rename_i B;rw[aF]at B;exact⟨B.1,B.2,A⟩
     .cases A
    obtain⟨D,E,qf,_,_,qp⟩:=B8 (ok:=RO j false) (nw:=fun g=>j.nw g/\(j.own g=none\/(cg j (aU [i.eb op]) g).isSome=true)) (own0:=cg j (aU [i.eb op])) (g0:=0) l con.i con.ps args.toList x Y Z (fun E s y qg qF A qG=>by
     obtain⟨F,qh,H⟩:=key E s y A;have:s=op:=by rw[O]at qg;exact(eR qg).symm
     subst this;have qq:∀g,RO j (m2 (pmM true)) g->cg j (aU [i.eb s]) g=none/\((j.nw g/\(j.own g=none\/(cg j (aU [i.eb s]) g).isSome=true))\/(true=false/\RO j false g)):=by
      intro g n;refine⟨by simp[cg,n.1],?_⟩;rcases n.2 with R|R
      .exact .inl ⟨R,.inl n.1⟩
      .cases R.1
     obtain⟨z,_⟩:=HZ (m:=pmM true) (by simp[pmM]) qq l (aU [i.eb s]) [] [E] [i.eb s] [a.eval s] (y,()) (pre:=[]) (seen:=[]) ⟨l.eb s,trivial⟩ (by simp) (fun id len C=>by simp at C) (by rw[fi,Ml];exact F) qh (by have:imV i E (i.eb s)=some y:=H;simp[B4,this])
     obtain⟨v,qH,S,qt,_⟩:=z;cases S;exact qt)
    obtain⟨F,qh,H⟩:=key p op qn qo;have:D=op:=by rw[O]at qf;exact(eR qf).symm
    subst this;have qu:p=con.q:=by have:=M.2.1;rw[qe]at this;exact eR this
    subst qu;refine Calls.mono (M.2.2 x y n w l.below _ _ _ 0 _ _ (Pw l (own0:=cg j (aU [i.eb D])) fun g qI qv=>Yy qv) qp) fun e qw S=>?_
    obtain⟨us,rfl,⟨T,I,rfl,z⟩,qi⟩:=S;show K (a.put (some d) (fk [T,I])) qw;cases L:ane con.b.1 y.2.1 with
    |true =>
     rw[L]at b z;rw[aA0 L]at b;exact atp (con:=aJ1 con) (f:=true) l rfl (fun g n=>n) (l.eb D) qe (.inl rfl) H F z qi b W
    |false =>
     rw[L]at b z;rw[aA1 L]at b;obtain⟨B,b⟩:=aX (show ck _ _=some r from b);simp only[aF]at B;obtain⟨⟨hd1,qx⟩,qy⟩:=B;obtain⟨⟨bQ,lU,qz,z⟩,qA⟩:=z;obtain⟨qK,hinv,hrel⟩:=ax5 (q:=con.q) (y2:=y.2.2) (m:=2) (rs:=[con.b]) (y:=(y.2.1,())) (us:=[I]) l (fun g n=>n) (l.eb D) H F lU qz z qi qx qy;refine W _ _ _ _ (hinv.put d (gJ hd1) (v:=.Vg (aFN con.a::(lJ d true [con.b] (y.2.1,()) 0).1)) (u:=fk [T,I]) ⟨#[T,I],rfl,?_,hrel⟩) b;unfold aFN;split
     .rename_i qB;obtain⟨qC,rfl,qD,qE⟩:=qA qB;exact⟨qC,rfl,ax7 qD qE⟩
     .exact trivial
 .cases b
end
end Go.Am
