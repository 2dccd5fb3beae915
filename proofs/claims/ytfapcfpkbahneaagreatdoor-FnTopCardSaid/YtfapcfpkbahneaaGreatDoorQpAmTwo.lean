/- No condition. -/
import Derived.Test.YtfapcfpkbahneaaGreatDoorQpAmCall
set_option linter.all false
namespace Go.Am
open Go.RowKit
section
variable {P:Program} {w0:fR} {w:World} {G:Gh} {st:St} {a:Act} {U:Type} {k:St->Option U} {r:U} {K:Act->World->Prop} {Q:Exit->Act->World->Prop} {o:Oper}
def JC {f:FuncId}(hf:YK P f){args:Array Operand}{ts:Array TypeId}(ho:o.op=.call {callee:=.value (.func f),args:=args,argTypes:=ts}) :
  (execOp a.eval o).run P w=.ok (.enter f (args.map a.eval)) w:=by
 obtain⟨fn,h1,h2,h3⟩:=hf;unfold execOp;rw[ho]
 have hn : ¬ fn.name = "runtime.NumGoroutine" := by simpa using h2
 have hb:¬fn.body=none:=by intro e;rw[e]at h3;cases h3
 simp[resolve,Act.eval,Deferred.ofValue,invoke,callFunc,h1,hn,hb]
def FB:∀(l:List AC) (st:St),iE st (st.freeze l)
 |[],st=>.refl st|c::l,st=>(sh st c).trans (FB l (st.eF c))
def abe {G':Gh}{l:List AC}(h':Inv w0 G' (st.freeze l) a w){nf:Bool}(ho:nf=true->p7 st l=true)(hn:nf=true->cZ l=true) :
  ∀t c v xs,c∈l->bS G' w (st.freeze l).bx (st.freeze l).bl c v->dm (st.freeze l) t c=some xs->∀e,Rd w (RO G' nf) (.sl e t) xs [v]:=by
 intro t c v xs hm hr hd e;refine kL h' hr hd (fun id len b hc hl=>?_) (fun f e u ys hc=>?_) e
 .subst hc;have hw:b.w=false:=by
   rcases(FB l st).bl id with h1|⟨b0,h1,h2⟩
   .have:=Jy l st id len b hm (h1.symm.trans hl);rw[hl]at this;have:=fJ (fJ this);rw[this]
   .rw[hl]at h2;have:=fJ (fJ h2);rw[this]
  refine⟨fun g hg=>hg.Ez fun hnf=>?_,fun hw'=>by rw[hw]at hw';cases hw'⟩;obtain⟨b0,hb0,hf⟩:=ane (ho hnf) id len hm;have:=Jy l st id len b0 hm (fw hb0);rw[hl]at this;cases this;exact hf
 .subst hc;exact fun g hg=>hg.Ez fun hnf=>OW (hn hnf) f e u ys hm
def adb {dV:St}(h:dV.tm=st.tm)(x:Operand):dV.eZ x=st.eZ x:=by
 have:dV.ev x=st.ev x:=by
  cases x with
  |tmp t =>
   show dV.get t=st.get t;unfold St.get;rw[h]
  |_=>rfl
 unfold St.eZ;rw[this]
def aHd {dV:St}(h:iE st dV)(p:Ty×Bool)(o:Operand):im1 dV p o=im1 st p o:=by
 unfold im1 imV;rw[adb h.tm];split
 .rw[vd h]
 .rw[vd h]
 .rfl
def aiH {dV:St}(h:iE st dV):∀(ps:List (Ty×Bool)) (os:List Operand),Oe dV ps os=Oe st ps os
 |[],[]=>rfl|[],_::_=>rfl|_::_,[]=>rfl|p::ps,o::os=>by
  simp only[Oe];rw[aHd h];split
  .rw[aiH h ps os]
  .rfl
def Oj {dV:St}(h:iE st dV):∀(os:List Operand),kZ dV os=kZ st os
 |[]=>rfl|o::os=>by simp only[kZ];rw[adb h.tm,Oj h os]
def aHe (G:Gh)(bx:List (Nat×List AC))(bl:List (Nat×Option gB))(g:Nat):Key->Prop
 |.bx d=>(look bx d).isSome=true/\g=G.hb d|.bl id=>(look bl id).isSome=true/\(G.hv id).ownBlock=some g|.hid=>False
def Inv.aPZ (h:Inv w0 G st a w){w':World}{fr:Nat->Prop}(hK:fK fr w w')(hfr:∀g,fr g->(G.own g).isSome=true)(aP0:∀g,fr g->G.own g≠some .hid)
  {G2:Gh} {bx2:List (Nat×List AC)} {bl2:List (Nat×Option gB)} (hnw:G2.nw=G.nw) (dZ:G2.ok=G.ok) (hold:∀g,g<w.heap.size->¬fr g->G2.own g=G.own g)
  (hs:la G st.bx st.bl G2 bx2 bl2)
  (hbx:X1 G w G2 w'->∀d l,look bx2 d=some l->(look st.bx d=some l/\G2.hb d=G.hb d/\¬fr (G.hb d))\/(∃cs e,w'.heap[G2.hb d]?=some (.cells cs e (0,0))/\G2.own (G2.hb d)=some (.bx d)/\cT (bS G2 w' bx2 bl2) l cs.toList))
  (hbl:∀id b,look bl2 id=some (some b)->(look st.bl id=some (some b)/\G2.hv id=G.hv id/\∀g,G.own g=some (.bl id)->¬fr g)\/EA G2 w' id b)
  (bK:∀g k,G2.own g=some k->(w.heap.size<=g\/fr g)->g<w'.heap.size/\aHe G2 bx2 bl2 g k) :
  Inv w0 G2 {st with bx:=bx2,bl:=bl2} a w'/\X1 G w G2 w':=by
 have hx:X1 G w G2 w':=by
  refine⟨hnw,dZ,hK.size,fun b hb ho=>?_,fun b hb ho=>?_⟩
  .have hne:¬fr b:=fun hf=>by have:=hfr b hf;rw[ho]at this;cases this
   exact⟨(hold b hb hne).trans ho,hK.block b hb hne⟩
  .have hne:¬fr b:=fun hf=>aP0 b hf ho
   exact⟨(hold b hb hne).trans ho,hK.block b hb hne⟩
 refine⟨⟨hnw.trans h.nw,dZ.trans h.rok,?_,h.defers,h.size,h.sp.mono hx hs,h.Fy hx,fun t v hv=>(h.tm t v hv).mono hx hs,?_,?_,?_⟩,hx⟩
 .refine h.below.step hK.os hK.tape hK.output hK.size fun k hk hf=>hK.block k (Ev hk h.below.size) fun hfk=>?_
  obtain⟨key,aL8⟩:=mA.1 (hfr k hfk);rcases(h.own k key aL8).1 with h1|h1
  .omega
  .exact hf h1
 .intro d l hd;rcases hbx hx d l hd with ⟨h1,h2,h3⟩|h1
  .obtain⟨cs,e,h4,h5,h6⟩:=h.bx d l h1;have hlt:=(h.own _ _ h5).2.1;refine⟨cs,e,?_,?_,h6.imp fun _ _=>bS.mono hx hs⟩
   .rw[h2,hK.block _ hlt h3];exact h4
   .rw[h2,hold _ hlt h3];exact h5
  .exact h1
 .intro id b hb;rcases hbl id b hb with ⟨h1,h2,h3⟩|h1
  .refine(h.bl id b h1).mono hx h2 fun hw g hg ho=>?_
   have hlt:=(h.own _ _ ho).2.1;exact⟨(hold g hlt (h3 g ho)).trans ho,hK.block g hlt (h3 g ho)⟩
  .exact h1
 .intro g k hk;by_cases hn:w.heap.size<=g\/fr g
  .obtain⟨h1,h2⟩:=bK g k hk hn;refine⟨?_,h1,by cases k with|bx d=>exact h2|bl id=>exact h2|hid=>exact h2.elim⟩;rcases hn with hn|hn
   .exact .inl (cR h.below.size hn)
   .obtain⟨key,aL8⟩:=mA.1 (hfr g hn);exact(h.own g key aL8).1
  .have hlt:g<w.heap.size:=by
    by_cases hl:g<w.heap.size
    .exact hl
    .exact absurd (.inl (by omega)) hn
   have hnf:¬fr g:=fun hf=>hn (.inr hf)
   rw[hold g hlt hnf]at hk;obtain⟨h1,h2,h3⟩:=h.own g k hk;refine⟨h1,Ev h2 hK.size,?_⟩;cases k with
   |hid=>trivial|bx d=>exact⟨(hs.bx d h3.1).1,by rw[(hs.bx d h3.1).2];exact h3.2⟩
   |bl id=>exact⟨(hs.bl id h3.1).1,by rw[(hs.bl id h3.1).2.1];exact h3.2⟩
def Ok (L:List (Nat×gB×Value))(g:Nat):Option Key:=(L.find? fun z=>z.2.2.ownBlock==some g).map fun z=>.bl z.1
def CP (L:List (Nat×gB×Value))(B:Option (Nat×Nat×List AC))(g:Nat):Option Key:=match B with
 |some (d,g0,_)=>if g=g0 then some (.bx d) else Ok L g|none=>Ok L g
def Gh.back (G:Gh)(size:Nat)(own0 cj:Nat->Option Nat)(L:List (Nat×gB×Value))(B:Option (Nat×Nat×List AC)):Gh :=
 {nw:=G.nw,ok:=G.ok,
  hb:=fun x=>match B with|some (d,g0,_)=>if x=d then g0 else G.hb x|none=>G.hb x,
  hv:=fun i=>match L.find? (·.1==i) with|some z=>z.2.2|none=>G.hv i,
  own:=fun g=>if g<size/\own0 g=none then G.own g else match cj g with|none=>none|some _=>CP L B g}
structure anl (w w':World) (G:Gh) (st:St) (own0 cj:Nat->Option Nat) (okE:Bool->Nat->Prop) (L:List (Nat×gB×Value)) (B:Option (Nat×Nat×List AC))
  (bx2:List (Nat×List AC)) (bl2:List (Nat×Option gB)):Prop where
 keeps:fK (fun g=>(own0 g).isSome=true) w w'
 pass:∀g j,own0 g=some j->(G.own g).isSome=true
 aNV:∀g j,own0 g=some j->G.own g≠some .hid
 new:∀g j,cj g=some j->w.heap.size<=g\/(own0 g).isSome=true
 els:∀f g,okE f g->RO (G.back w.heap.size own0 cj L B) f g
 row:∀z∈L,z.2.1.w=true/\0<z.2.1.t.n/\(∃rows,w'.ownsRow 0 z.2.1.e z.2.1.t.n z.2.2 z.2.1.xs.length rows/\fU w' (okE z.2.1.f) z.2.1.t rows z.2.1.xs)/\∀g,z.2.2.ownBlock=some g->(cj g).isSome=true
 inj:∀z∈L,∀z'∈L,∀g,z.2.2.ownBlock=some g->z'.2.2.ownBlock=some g->z=z'
 uniq:∀z∈L,∀z'∈L,z.1=z'.1->z=z'
 name:∀z∈L,look st.bl z.1=none\/(z.2.2=G.hv z.1/\∃b,look st.bl z.1=some (some b)/\b.t=z.2.1.t)
 bl:∀i b,look bl2 i=some (some b)->(∃v,(i,b,v)∈L)\/((∀z∈L,z.1≠i)/\look st.bl i=some (some b)/\∀g,G.own g=some (.bl i)->own0 g=none)
 bls:∀i,(look st.bl i).isSome=true->(look bl2 i).isSome=true
 blL:∀z∈L,(look bl2 z.1).isSome=true
 bx:∀d l,look bx2 d=some l->(∃g0,B=some (d,g0,l))\/((∀d' g l',B=some (d',g,l')->d'≠d)/\look st.bx d=some l/\own0 (G.hb d)=none)
 bxs:∀d,(look st.bx d).isSome=true->(look bx2 d).isSome=true
 bxB:∀d g l,B=some (d,g,l)->(look bx2 d).isSome=true/\(look st.bx d=none\/G.hb d=g)/\((cj g).isSome=true/\∀z∈L,z.2.2.ownBlock≠some g) /\
  ∃cs e f t x,w'.heap[g]?=some (.cells cs e (0,0))/\l=ex f t x/\Rd w' (okE f) t x cs.toList
def anl.find {w w':World}{G:Gh}{st:St}{own0 cj:Nat->Option Nat}{okE:Bool->Nat->Prop}{L:List (Nat×gB×Value)}{B:Option (Nat×Nat×List AC)}
  {bx2:List (Nat×List AC)} {bl2:List (Nat×Option gB)} (h:anl w w' G st own0 cj okE L B bx2 bl2) {z:Nat×gB×Value} (hz:z∈L) {g:Nat} (hg:z.2.2.ownBlock=some g) :
  (G.back w.heap.size own0 cj L B).own g=some (.bl z.1):=by
 obtain⟨j0,ho⟩:=mA.1 ((h.row z hz).2.2.2 g hg);have gO:Ok L g=some (.bl z.1):=by
  unfold Ok;cases hf:L.find? fun z=>z.2.2.ownBlock==some g with
  |none =>
   have:=amG.1 hf z hz;simp[hg]at this
  |some y =>
   have h1:=aiu hf;have h2:=US hf;have:=h.inj z hz y h2 g hg (by simpa using h1);rw[<-this];rfl
 have hne:¬(g<w.heap.size/\own0 g=none):=by
  rintro⟨h1,h2⟩;rcases h.new g _ ho with h3|h3
  .omega
  .rw[h2]at h3;cases h3
 unfold Gh.back;dsimp only;rw[ah hne,ho];dsimp only;unfold CP;split
 .rename_i d g0 l;split
  .rename_i he;subst he;obtain⟨_,_,⟨h4,h5⟩,_⟩:=h.bxB d g l rfl;exact absurd hg (h5 z hz)
  .exact gO
 .exact gO
def Inv.back (h:Inv w0 G st a w){w':World}{own0 cj:Nat->Option Nat}{okE:Bool->Nat->Prop}{L:List (Nat×gB×Value)}{B:Option (Nat×Nat×List AC)}
  {bx2:List (Nat×List AC)} {bl2:List (Nat×Option gB)} (hB:anl w w' G st own0 cj okE L B bx2 bl2) :
  Inv w0 (G.back w.heap.size own0 cj L B) {st with bx:=bx2,bl:=bl2} a w'/\∀c v,uk L c v->bS (G.back w.heap.size own0 cj L B) w' bx2 bl2 c v:=by
 have hvL:∀z∈L,(G.back w.heap.size own0 cj L B).hv z.1=z.2.2:=by
  intro z hz;show(match L.find? (·.1==z.1) with|some z=>z.2.2|none=>G.hv z.1)=_;cases hf:L.find? (·.1==z.1) with
  |none =>
   have:=amG.1 hf z hz;simp at this
  |some y =>
   have h1:=aiu hf;have h2:=US hf;rw[hB.uniq y h2 z hz (by simpa using h1)]
 have hvN:∀i,(∀z∈L,z.1≠i)->(G.back w.heap.size own0 cj L B).hv i=G.hv i:=by
  intro i hi;show(match L.find? (·.1==i) with|some z=>z.2.2|none=>G.hv i)=_;cases hf:L.find? (·.1==i) with
  |none=>rfl
  |some y =>
   have h1:=aiu hf;exact absurd (by simpa using h1) (hi y (US hf))
 have hbN:∀d,(∀d' g l,B=some (d',g,l)->d'≠d)->(G.back w.heap.size own0 cj L B).hb d=G.hb d:=by
  intro d hd;show(match B with|some (d',g0,_)=>if d=d' then g0 else G.hb d|none=>G.hb d)=_;cases B with
  |none=>rfl
  |some q =>
   obtain⟨d',g,l⟩:=q;have:=hd d' g l rfl;show(if d=d' then g else G.hb d)=_;rw[ah fun e=>this e.symm]
 have hbB:∀d g l,B=some (d,g,l)->(G.back w.heap.size own0 cj L B).hb d=g:=by intro d g l he;subst he;simp[Gh.back]
 have hs:la G st.bx st.bl (G.back w.heap.size own0 cj L B) bx2 bl2:=by
  refine⟨fun d hd=>⟨hB.bxs d hd,?_⟩,fun i hi=>⟨hB.bls i hi,?_,fun b' CL=>?_⟩⟩
  .by_cases hq:∃g l,B=some (d,g,l)
   .obtain⟨g,l,hq⟩:=hq;rw[hbB d g l hq];rcases(hB.bxB d g l hq).2.1 with h1|h1
    .rw[h1]at hd;cases hd
    .exact h1.symm
   .exact hbN d fun d' g l he hdd=>hq ⟨g,l,by rw[he,hdd]⟩
  .by_cases hq:∃z∈L,z.1=i
   .obtain⟨z,hz,rfl⟩:=hq;rw[hvL z hz];rcases hB.name z hz with h1|⟨h1,_⟩
    .rw[h1]at hi;cases hi
    .exact h1
   .exact hvN i fun z hz hzi=>hq ⟨z,hz,hzi⟩
  .rcases hB.bl i b' CL with ⟨v,hv⟩|⟨_,h1,_⟩
   .rcases hB.name _ hv with h1|⟨_,b,h2,h3⟩
    .rw[h1]at hi;cases hi
    .exact⟨b,h2,h3⟩
   .exact⟨b',h1,rfl⟩
 have aNW:=h.aPZ (G2:=G.back w.heap.size own0 cj L B) (bx2:=bx2) (bl2:=bl2) hB.keeps (fun g hg=>by
   obtain⟨j,hj⟩:=mA.1 hg;exact hB.pass g j hj) (fun g hg=>by
   obtain⟨j,hj⟩:=mA.1 hg;exact hB.aNV g j hj) rfl rfl (fun g hg hf=>by
   have:own0 g=none:=by
    cases ho:own0 g with
    |none=>rfl|some j=>rw[ho]at hf;exact absurd rfl hf
   simp[Gh.back,hg,this]) hs (fun hx d l hd=>by
   rcases hB.bx d l hd with ⟨g0,hg⟩|⟨h1,h2,h3⟩
   .refine .inr ?_;obtain⟨_,_,⟨h40,h5⟩,cs,e,f,t,x,h6,rfl,h8⟩:=hB.bxB d g0 l hg;obtain⟨j,h4⟩:=mA.1 h40;refine⟨cs,e,by rw[hbB d g0 _ hg];exact h6,?_,Vb (jE (fun g hg=>hB.els f g hg) h8)⟩;rw[hbB d g0 _ hg];have hne:¬(g0<w.heap.size/\own0 g0=none):=by
     rintro⟨h9,Rc⟩;rcases hB.new g0 j h4 with h3|h3
     .omega
     .rw[Rc]at h3;cases h3
    subst hg;unfold Gh.back;dsimp only;rw[ah hne,h4];simp[CP]
   .exact .inl ⟨h2,hbN d h1,by rw[h3];simp⟩) (fun i b hb=>by
   rcases hB.bl i b hb with ⟨v,hv⟩|⟨h1,h2,h3⟩
   .refine .inr ?_;obtain⟨hw,hp,⟨rows,h4,h5⟩,h6⟩:=hB.row _ hv;have hhv:=hvL _ hv;refine⟨fun _=>⟨rows,?_,?_,?_⟩,fun hw'=>?_,hp⟩
    .rw[hhv];exact h4
    .rw[hhv];exact fun g hg=>hB.find hv hg
    .exact mE (fun g hg=>hB.els _ g hg) h5
    .rw[show b.w=true from hw]at hw';cases hw'
   .exact .inl ⟨h2,hvN i h1,fun g hg=>by rw[h3 g hg];simp⟩) (fun g key hk hn=>by
   have hne:¬(g<w.heap.size/\own0 g=none):=by
    rintro⟨h1,h2⟩;rcases hn with h3|h3
    .omega
    .rw[h2]at h3;cases h3
   have hk0:=hk;unfold Gh.back at hk;dsimp only at hk;rw[ah hne]at hk;cases ho:cj g with
   |none=>rw[ho]at hk;cases hk
   |some j =>
    rw[ho]at hk;dsimp only at hk;have aDx:Ok L g=some key->g<w'.heap.size/\aHe (G.back w.heap.size own0 cj L B) bx2 bl2 g key:=by
     intro hr;unfold Ok at hr;cases hf:L.find? fun z=>z.2.2.ownBlock==some g with
     |none=>rw[hf]at hr;cases hr
     |some y =>
      rw[hf]at hr;cases hr;have h1:=aiu hf;have h2:=US hf;have h3:y.2.2.ownBlock=some g:=by simpa using h1
      refine⟨?_,hB.blL y h2,by rw[hvL y h2];exact h3⟩;obtain⟨_,_,⟨rows,h4,_⟩,_⟩:=hB.row y h2;rcases h4.2 with ⟨he,_⟩|⟨g',cap,cur,he,_,hh,_⟩
      .rw[he]at h3;simp[Value.ownBlock]at h3
      .rw[he]at h3;have:g'=g:=by simpa [Value.ownBlock]using h3
       subst this;exact(Bj.1 hh).1
    unfold CP at hk;split at hk
    .rename_i d g0 l;by_cases he:g=g0
     .rw[ai he]at hk;cases hk;obtain⟨h1,_,_,cs,e,f,t,x,h6,_⟩:=hB.bxB d g0 l rfl;subst he;exact⟨(Bj.1 h6).1,h1,(hbB d g l rfl).symm⟩
     .rw[ah he]at hk;exact aDx hk
    .exact aDx hk)
 refine⟨aNW.1,fun c v hc=>?_⟩;cases c with
 |own i len =>
  cases len with
  |some l=>exact hc.elim
  |none =>
   obtain⟨b,hb⟩:=hc;have hhv:=hvL _ hb;refine⟨hB.blL _ hb,?_,hhv.symm⟩;rw[show(G.back w.heap.size own0 cj L B).hv i=v from hhv];obtain⟨_,_,⟨rows,ho,_⟩,_⟩:=hB.row _ hb;rcases ho.2 with ⟨he,_⟩|⟨g',cap,cur,he,_⟩
   .exact⟨_,_,_,he⟩
   .exact⟨_,_,_,he⟩
 |int k n=>exact hc|bool b=>exact hc|str s=>exact hc|_=>exact hc.elim
def jF:List AC->List Nat
 |[]=>[]|.own id _::l=>id::jF l|_::l=>jF l
def aE8 {m:Nat}(hm:m=2\/m=3){seen:List Nat}{id:Nat}{len:Option Int}{l:List AC}(h:iB st m seen (.own id len::l)=true) :
  ∃b,st.rZ id=some b/\(m=2->b.f=true)/\b.w=true/\id ∉ seen/\len=none/\iB st m (id::seen) l=true:=by
 simp only[iB]at h;split at h
 .rename_i b hb;have hlen:∀o:Option Int,(match o with|none=>true|some _=>false)=true->o=none:=by
   intro o ho;cases o with
   |none=>rfl|some _=>cases ho
  have hns:∀c:Bool,(!c)=true->c=false:=by intro c hc;cases c with|false=>rfl|true=>cases hc
  have w9:YI seen id=false->id ∉ seen:=fun hf hi=>by rw[Vl.2 hi]at hf;cases hf
  rcases hm with rfl|rfl
  .simp only[aI,kE]at h;exact⟨b,hb,fun _=>h.1.1.elim (fun h=>h.elim (fun h=>h) (fun h=>by cases h)) (fun h=>by cases h),h.1.2.1.1,w9 (hns _ h.1.2.1.2),hlen _ h.1.2.2,h.2⟩
  .simp only[aI]at h;exact⟨b,hb,fun h2=>(by cases h2),h.1.2.1.1,w9 (hns _ h.1.2.1.2),hlen _ h.1.2.2,h.2⟩
 .cases h
def aBo {m:Nat}{seen:List Nat}{c:AC}{l:List AC}(hc:∀id len,c≠.own id len)(h:iB st m seen (c::l)=true):iB st m seen l=true:=by
 cases c with
 |own id len=>exact absurd rfl (hc id len)|ro f e t xs=>simp only[iB,aI]at h;exact h.2|_=>exact h
def X5 {m:Nat}(hm:m=2\/m=3):∀{l:List AC} {seen:List Nat},iB st m seen l=true->(jF l).Nodup/\(∀id∈jF l,id ∉ seen)/\∀id len,AC.own id len∈l->len=none/\∃b,st.rZ id=some b
 |[],seen,_=>⟨List.nodup_nil,fun id hi=>by simp[jF]at hi,fun id len hi=>by simp at hi⟩
 |c::l,seen,h=>by
  by_cases hc:∃id len,c=.own id len
  .obtain⟨id,len,rfl⟩:=hc;obtain⟨b,hb,_,_,hns,hlen,ht⟩:=aE8 hm h;obtain⟨h1,h2,h3⟩:=X5 hm ht;refine⟨auY.2 ⟨fun hi=>h2 id hi (by simp),h1⟩,fun i hi=>?_,fun i ln hi=>?_⟩
   .rcases dE.1 (show i∈id::jF l from hi) with rfl|hi
    .exact hns
    .exact fun hs=>h2 i hi (by simp[hs])
   .rcases dE.1 hi with he|hi
    .cases he;exact⟨hlen,b,hb⟩
    .exact h3 i ln hi
  .have hc':∀id len,c≠.own id len:=fun id len he=>hc ⟨id,len,he⟩
   obtain⟨h1,h2,h3⟩:=X5 hm (aBo hc' h);have he:jF (c::l)=jF l:=by
    cases c with
    |own id len=>exact absurd rfl (hc' id len)|_=>rfl
   rw[he];refine⟨h1,h2,fun i ln hi=>?_⟩;rcases dE.1 hi with he'|hi
   .exact absurd he'.symm (hc' i ln)
   .exact h3 i ln hi
def af4 (id:Nat):∀(l:List AC),look (st.gone l).bl id=if id∈jF l then some none else look st.bl id
 |[]=>by simp[jF,St.gone]
 |c::l=>by
  have ih:=af4 id l;cases c with
  |own i len =>
   show look ((i,none)::(st.gone l).bl) id=_;rw[aw];by_cases hi:i=id
   .simp[hi,jF]
   .rw[ah hi,ih];have hi':¬id=i:=fun e=>hi e.symm
    simp[jF,hi']
  |_=>exact ih
structure avp (w':World) (okE:Nat->Prop) (f:Bool) (cj:Nat->Option Nat) (G:Gh) (st:St) (z:Nat×Nat×gB×Value):Prop where
 wr:z.2.2.1.w=true
 nf:z.2.2.1.f=f
 pos:0<z.2.2.1.t.n
 row:∃rows,w'.ownsRow 0 z.2.2.1.e z.2.2.1.t.n z.2.2.2 z.2.2.1.xs.length rows/\fU w' okE z.2.2.1.t rows z.2.2.1.xs
 rZ:∀g,z.2.2.2.ownBlock=some g->cj g=some z.1
 hv:z.2.2.2=G.hv z.2.1
 old:∃b,look st.bl z.2.1=some (some b)/\b.t=z.2.2.1.t
def FrC.len {w:World}{okE:Nat->Prop}{own:Nat->Option Nat}:∀{t:Ty} {x:t.D} {j:Nat} {cs:List Value},FrC w okE own t x j cs->cs.length=t.n
 |.int _,_,_,_,h=>by rw[show _=_ from h];rfl
 |.bool,_,_,_,h=>by rw[show _=_ from h];rfl
 |.str,_,_,_,h=>by rw[show _=_ from h];rfl
 |.unit,_,_,_,h=>by rw[show _=_ from h];rfl
 |.pair a b,_,_,_,h=>by obtain⟨c1,c2,rfl,h1,h2⟩:=h;simp[Ty.n,FrC.len h1,FrC.len h2]
 |.sl e t,_,_,_,h=>by obtain⟨v,rows,rfl,_⟩:=h;rfl
def FrC.els {w:World}{okE anm:Nat->Prop}{own:Nat->Option Nat}:∀{t:Ty} {x:t.D} {j:Nat} {cs:List Value},FrC w okE own t x j cs->(∀g,okE g->anm g)->FrC w anm own t x j cs
 |.int _,_,_,_,h,_=>h|.bool,_,_,_,h,_=>h|.str,_,_,_,h,_=>h|.unit,_,_,_,h,_=>h|.pair a b,_,_,_,h,he=>by obtain⟨c1,c2,e,h1,h2⟩:=h;exact⟨c1,c2,e,FrC.els h1 he,FrC.els h2 he⟩
 |.sl e t,_,_,_,h,he=>by obtain⟨v,rows,h1,h2,h3,h4,h5⟩:=h;exact⟨v,rows,h1,h2,h3,h4,mE he h5⟩
def qe.aLl {w:World}{okE anm:Nat->Prop}{own:Nat->Option Nat}(he:∀g,okE g->anm g):∀{rs:List (Ty×Bool)} {x:Args rs} {j:Nat} {vs:List Value},qe w okE own rs x j vs->qe w anm own rs x j vs
 |[],_,_,_,h=>h|_::_,_,_,_,h=>by obtain⟨v,vs',e,⟨cs,h1,h2⟩,h3⟩:=h;exact⟨v,vs',e,⟨cs,FrC.els h1 he,h2⟩,qe.aLl he h3⟩
def aJT (h:Inv w0 G st a w){l:List AC}:∀t c v xs,c∈l->bS G w st.bx st.bl c v->dm st t c=some xs->∀e,Rd w (fun _=>True) (.sl e t) xs [v]:=fun t c v xs _=>Vk h t c v xs
def af5 {w':World}{okE:Nat->Prop}{f:Bool}{cj:Nat->Option Nat}:∀{t:Ty} {x0 x:t.D} {j:Nat} {l l':List AC} {vs vs2 cs:List Value},
  im st t l=some (x0,l')->cT (bS G w st.bx st.bl) l vs->(∀id len,AC.own id len∈l->len=none/\∃b,st.rZ id=some b)->FrC w' okE cj t x j cs->vs=cs++vs2 ->
  ∃(l1:List AC) (L:List (Nat×Nat×gB×Value)),l=l1++l'/\cT (bS G w st.bx st.bl) l' vs2/\(ui f t x l).2=l'/\(ui f t x l).1=L.map (fun z=>(z.2.1,some z.2.2.1))/\L.map (·.2.1)=jF l1 /\
   (∀z∈L,j<=z.1/\z.1<j+t.n/\avp w' okE f cj G st z)/\(∀z∈L,∀z'∈L,z.1=z'.1->z=z')
 |.int k,x0,x,j,l,l',vs,vs2,cs,hi,hrel,bK,hf,he=>by
  cases l with
  |nil=>simp[im]at hi
  |cons c l =>
   cases c with
   |int q n =>
    simp only[im]at hi;split at hi
    .cases hi;subst he;rw[show cs=_ from hf]at hrel;exact⟨[_],[],rfl,hrel.2,rfl,rfl,rfl,fun z hz=>by simp at hz,fun z hz=>by simp at hz⟩
    .cases hi
   |_=>simp[im]at hi
 |.bool,x0,x,j,l,l',vs,vs2,cs,hi,hrel,bK,hf,he=>by
  cases l with
  |nil=>simp[im]at hi
  |cons c l =>
   cases c with
   |bool b =>
    simp only[im]at hi;cases hi;subst he;rw[show cs=_ from hf]at hrel;exact⟨[_],[],rfl,hrel.2,rfl,rfl,rfl,fun z hz=>by simp at hz,fun z hz=>by simp at hz⟩
   |_=>simp[im]at hi
 |.str,x0,x,j,l,l',vs,vs2,cs,hi,hrel,bK,hf,he=>by
  cases l with
  |nil=>simp[im]at hi
  |cons c l =>
   cases c with
   |str b =>
    simp only[im]at hi;cases hi;subst he;rw[show cs=_ from hf]at hrel;exact⟨[_],[],rfl,hrel.2,rfl,rfl,rfl,fun z hz=>by simp at hz,fun z hz=>by simp at hz⟩
   |_=>simp[im]at hi
 |.unit,x0,x,j,l,l',vs,vs2,cs,hi,hrel,bK,hf,he=>by simp only[im]at hi;cases hi;subst he;rw[show cs=[] from hf]at hrel;exact⟨[],[],rfl,hrel,by simp[ui],by simp[ui],rfl,fun z hz=>by simp at hz,fun z hz=>by simp at hz⟩
 |.pair p q,x0,x,j,l,l',vs,vs2,cs,hi,hrel,bK,hf,he=>by
  simp only[im]at hi;split at hi
  .rename_i y r1 hy;split at hi
   .rename_i z r2 hz;cases hi;obtain⟨c1,c2,rfl,hf1,hf2⟩:=hf;obtain⟨l1,L1,h1,h2,h3,h4,h5,h6,h7⟩:=af5 (f:=f) hy hrel bK hf1 (by rw[he,iT]);obtain⟨l2,L2,k1,k2,k3,k4,k5,k6,k7⟩:=af5 (f:=f) (l:=r1) hz h2 (fun id len hm=>bK id len (by rw[h1];simp[hm])) hf2 rfl;refine⟨l1++l2,L1++L2,by rw[h1,k1,iT],k2,?_,?_,?_,fun z hz=>?_,fun z hz z' LH he'=>?_⟩
    .simp only[ui,h3,k3]
    .simp only[ui,h3,h4,k4,ait]
    .rw[ait,h5,k5];have app:∀(a b:List AC),jF (a++b)=jF a++jF b:=by
      intro a b
      induction a with
      |nil=>rfl
      |cons c a ih =>
       cases c with
       |own id len=>simp[jF,ih]|_=>simp[jF,ih]
     rw[app]
    .rcases jx.1 hz with hz|hz
     .obtain⟨a1,a2,a3⟩:=h6 z hz;exact⟨a1,by simp only[Ty.n];omega,a3⟩
     .obtain⟨a1,a2,a3⟩:=k6 z hz;exact⟨by omega,by simp only[Ty.n];omega,a3⟩
    .rcases jx.1 hz with hz|hz<;>rcases jx.1 LH with LH|LH
     .exact h7 z hz z' LH he'
     .have:=(h6 z hz).2.1;have:=(k6 z' LH).1;omega
     .have:=(k6 z hz).1;have:=(h6 z' LH).2.1;omega
     .exact k7 z hz z' LH he'
   .cases hi
  .cases hi
 |.sl e t,x0,x,j,l,l',vs,vs2,cs,hi,hrel,bK,hf,he=>by
  cases l with
  |nil=>simp[im]at hi
  |cons c l =>
   simp only[im]at hi;split at hi
   .rename_i ys hys;cases hi;obtain⟨v,rows,rfl,hp,ho,hb,hel⟩:=hf;subst he;have ax8:bS G w st.bx st.bl c v:=hrel.1;have aHf:cT (bS G w st.bx st.bl) l' vs2:=hrel.2;cases c with
    |own id len =>
     obtain⟨hlen,b,aJN⟩:=bK id len (by simp);subst hlen;simp only[dm,aJN]at hys;split at hys
     .rename_i ht;refine⟨[.own id none],[(j,id,⟨e,t,x,f,true⟩,v)],rfl,aHf,rfl,rfl,rfl,fun z hz=>?_,fun z hz z' LH _=>?_⟩
      .simp at hz;subst hz;refine⟨bZ _,by simp[Ty.n],rfl,rfl,hp,⟨rows,ho,hel⟩,hb,ax8.2.2,b,fw aJN,Ty.beq_eq ht⟩
      .simp at hz LH;rw[hz,LH]
     .cases hys
    |nil=>exact⟨[_],[],rfl,aHf,rfl,rfl,rfl,fun z hz=>by simp at hz,fun z hz=>by simp at hz⟩
    |ro f' e' t' xs'=>exact⟨[_],[],rfl,aHf,rfl,rfl,rfl,fun z hz=>by simp at hz,fun z hz=>by simp at hz⟩
    |_=>simp[dm]at hys
   .cases hi
def Vo {dV:St}(h:iE st dV)(pm:PM):∀(i:Nat) (os:List Operand),iC dV pm i os=iC st pm i os
 |0,[]=>rfl|_+1,[]=>rfl|0,o::os=>by simp only[iC];rw[adb h.tm,Oj h os,h.bx]
 |i+1,o::os=>by simp only[iC];rw[adb h.tm,Vo h pm i os]
def BI (h:Inv w0 G st a w){ok nw:Nat->Prop}{own0:Nat->Option Nat}{g0:Nat}{pm:PM}:∀(i:Nat) (ps:List (Ty×Bool)) (os:List Operand) (x:Args ps),
  (∀t c v xs,c∈iC st pm i os->bS G w st.bx st.bl c v->dm st t c=some xs->∀e,Rd w ok (.sl e t) xs [v])->ky st pm i ps os=some x ->
  (∀p o y,og os i=some o->og ps i=some p->im2 st pm p o=some y->(pm=.rd->∀t c v xs,c∈(st.eZ o).cells->bS G w st.bx st.bl c v->dm st t c=some xs->∀e,Rd w ok (.sl e t) xs [v])->aNR w ok nw own0 g0 pm p y (a.eval o)) ->
  ∃o p,og os i=some o/\og ps i=some p/\(∃y,im2 st pm p o=some y)/\Vj w ok nw own0 g0 pm i ps x (os.map a.eval) (a.eval o)
 |0,[],os,x,_,hi,_=>by cases os<;>simp[ky]at hi
 |_+1,[],os,x,_,hi,_=>by cases os<;>simp[ky]at hi
 |0,p::ps,[],x,_,hi,_=>by simp[ky]at hi
 |_+1,p::ps,[],x,_,hi,_=>by simp[ky]at hi
 |0,p::ps,o::os,x,hc,hi,hs=>by
  simp only[ky]at hi;split at hi
  .rename_i y hy;split at hi
   .rename_i ys hys;cases hi;refine⟨o,p,rfl,rfl,⟨y,hy⟩,os.map a.eval,rfl,hs p o y rfl rfl hy (fun hp t c v xs hm=>hc t c v xs ?_),I8 h ps os ys (fun t c v xs hm=>hc t c v xs ?_) hys⟩
    .subst hp;simp[iC,hm]
    .simp[iC,hm]
   .cases hi
  .cases hi
 |i+1,p::ps,o::os,x,hc,hi,hs=>by
  simp only[ky]at hi;split at hi
  .rename_i y hy;split at hi
   .rename_i ys hys;cases hi;obtain⟨o',p',h1,h2,h3,h4⟩:=BI h i ps os ys (fun t c v xs hm=>hc t c v xs (by simp[iC,hm])) hys (fun p o y h1 h2=>hs p o y h1 h2);exact⟨o',p',h1,h2,h3,a.eval o,os.map a.eval,rfl,avo h (fun t c v xs hm=>hc t c v xs (by simp[iC,hm])) hy,h4⟩
   .cases hi
  .cases hi
def JD (h:Inv w0 G st a w){own0 cj:Nat->Option Nat}(OZ:∀g j,own0 g=some j->(G.own g).isSome=true)(L:List (Nat×gB×Value))(B:Option (Nat×Nat×List AC))(f:Bool)(g:Nat)
  (hg:cj g=none/\((G.nw g/\(G.own g=none\/(own0 g).isSome=true))\/(f=false/\RO G false g))):RO (G.back w.heap.size own0 cj L B) f g:=by
 obtain⟨h1,h2⟩:=hg;have bK:(G.back w.heap.size own0 cj L B).own g=none:=by
  show(if g<w.heap.size/\own0 g=none then G.own g else match cj g with|none=>none|some _=>CP L B g)=none;by_cases hc:g<w.heap.size/\own0 g=none
  .rw[ai hc];rcases h2 with ⟨_,h3|h3⟩|⟨_,h3⟩
   .exact h3
   .rw[hc.2]at h3;cases h3
   .exact h3.1
  .rw[ah hc,h1]
 refine⟨bK,?_⟩;rcases h2 with ⟨h3,_⟩|⟨h3,h4⟩
 .exact .inl h3
 .rcases h4.2 with h5|h5
  .exact .inl h5
  .exact .inr ⟨h3,h5.2⟩
def O0 (h:Inv w0 G st a w){own0:Nat->Option Nat}(OZ:∀g j,own0 g=some j->(G.own g).isSome=true) :
  Handed w (fun g=>w0.w.heap.size<=g\/w0.fr g) (RO G false) (fun g=>G.nw g/\(G.own g=none\/(own0 g).isSome=true)) own0 where
 mD g hg:=by
  refine⟨h.axV hg,.inl ?_⟩;cases ho:G.own g with
  |none=>rfl|some k=>have:=(h.own g k ho).2.1;omega
 bK g j hj:=by obtain⟨k,hk⟩:=mA.1 (OZ g j hj);obtain⟨h1,h2,_⟩:=h.own g k hk;exact⟨⟨h.U9 hk,.inr (by rw[hj];rfl)⟩,h2,h1⟩
 dZ g hg:=by
  cases ho:own0 g with
  |none=>rfl
  |some j =>
   have:=OZ g j ho;rw[hg.1]at this;cases this
def aBp {ok:Nat->Prop}{p:Ty×Bool}(hp:p.2=true){x:Args [p]}{cs:Array Value}(h:e8 w ok [p] x [.agg cs]):Rd w ok p.1 x.1 cs.toList:=by obtain⟨v,vs',he,⟨cs',h1,h2⟩,_⟩:=h;rw[hp]at h2;have:v=.agg cs:=(uE he).1.symm;rw[this]at h2;have h3:cs=cs'.toArray:=Value.agg.inj h2;rw[h3];exact h1
def Vp {G:Gh}{bx:List (Nat×List AC)}{bl:List (Nat×Option gB)}{L:List (Nat×gB×Value)}(h:∀c v,uk L c v->bS G w bx bl c v){c:CV}{v:Value}(hc:ax5 L c v):fv G w bx bl c v:=by
 cases c with
 |c x=>exact h x v hc
 |agg l =>
  obtain⟨cs,he,hl⟩:=hc;exact⟨cs,he,hl.imp h⟩
def aJU (h:Inv w0 G st a w){con:OR}{ok:Nat->Prop}{w':World}{g0:Nat}{u:Value}{y:Args con.rs×Args con.qs}{us:List Value}(dZ:∀g,ok g->RO G false g)
  {fl:Bool} (hm:rdM con.m=some fl) (df:ani con w w' ok (fun g=>G.nw g/\(G.own g=none\/(none:Option Nat).isSome=true)) (fun _=>none) g0 u y us) (hK0:fK (fun g=>(none:Option Nat).isSome=true) w w') {d:Tmp}
  (hr:au1 fl con.rs st d y.1 k=some r) (hK:sg w0 k r K):K (a.put (some d) (ga us)) w':=by
 obtain⟨cj,mD,_,df⟩:=df;have df:∃b cs e,us=[.pointer (some ⟨b,0,none⟩)]/\w.heap.size<=b/\(cj b).isSome=true/\w'.heap[b]?=some (.cells cs e (0,0)) /\
   e8 w' (fun g=>cj g=none/\((G.nw g/\(G.own g=none\/(none:Option Nat).isSome=true))\/(fl=false/\ok g))) con.rs y.1 [.agg cs]:=by
  unfold rdM at hm;split at hm
  .rename_i h4;cases hm;rw[h4]at df;obtain⟨b,cs,e,h1,h2,h3,h4,h5⟩:=df;exact⟨b,cs,e,h1,h2,h3,h4,kM (fun g hg=>⟨hg.1,.inl hg.2⟩) h5⟩
  .rename_i h4;cases hm;rw[h4]at df;obtain⟨b,cs,e,h1,h2,h3,h4,h5⟩:=df;exact⟨b,cs,e,h1,h2,h3,h4,kM (fun g hg=>⟨hg.1,hg.2.imp_right fun h=>⟨rfl,h⟩⟩) h5⟩
  .cases hm
 obtain⟨b,cs,e,rfl,hsz,hob,hh,hargs⟩:=df;obtain⟨ps,i,pm,rs,m,qs,g⟩:=con;dsimp only at *;unfold au1 at hr;split at hr
 .rename_i a0 r0;split at hr
  .rename_i hl;obtain⟨hc,hr⟩:=aY hr;rw[aI]at hc;have kz:=aBp hc.2 hargs;have hB:anl w w' G st (fun _=>none) cj (fun f g=>cj g=none/\((G.nw g/\(G.own g=none\/(none:Option Nat).isSome=true))\/(f=false/\RO G false g))) [] (some (d,b,ex fl a0.1 y.1.1))
     ((d,ex fl a0.1 y.1.1)::st.bx) st.bl:=by
    refine⟨hK0,fun g j hg=>(by cases hg),fun g j hg=>(by cases hg),mD,fun f g hg=>JD h (fun g j hg=>by cases hg) [] _ f g hg,fun z hz=>(by simp at hz),fun z hz=>(by simp at hz),fun z hz=>(by simp at hz),fun z hz=>(by simp at hz),
     fun i b hb=>.inr ⟨fun z hz=>(by simp at hz),hb,fun _ _=>rfl⟩,fun i hi=>hi,fun z hz=>(by simp at hz),fun d' l hd=>?_,fun d' hd=>xO _ trivial hd,fun d' g l he=>?_⟩
    .rw[aw]at hd;by_cases hdd:d=d'
     .subst hdd;rw[ai rfl]at hd;cases hd;exact .inl ⟨b,rfl⟩
     .rw[ah hdd]at hd;exact .inr ⟨fun d2 g l' he=>(by cases he;exact hdd),hd,rfl⟩
    .cases he;refine⟨by simp[aw],.inl hl,⟨hob,fun z hz=>(by simp at hz)⟩,cs,e,fl,a0.1,y.1.1,hh,rfl,jE (fun g hg=>⟨hg.1,hg.2.imp_right fun h=>⟨h.1,dZ g h.2⟩⟩) kz⟩
   obtain⟨hinv,_⟩:=h.back hB;have h2:=hinv.put d (iD hc.1) (v:=.v (.c (.ptr d 0))) (u:=.pointer (some ⟨b,0,none⟩)) ⟨by simp[aw],by simp[Gh.back]⟩;exact hK _ _ _ _ h2 hr
  .cases hr
 .cases hr
def abf {id:Nat}:∀{l:List AC} {k:Nat},id ∉ jF l->Vm l id k=none
 |[],_,_=>rfl|c::l,k,h=>by
  cases c with
  |own i len =>
   have h1:i≠id:=fun e=>h (by simp[jF,e])
   have h2:id ∉ jF l:=fun hi=>h (by simp[jF,hi])
   simp[Vm,h1,abf h2]
  |_=>exact abf (l:=l) h
def X6 {all:List AC}{g j:Nat}(h:cS G all g=some j):(G.own g).isSome=true:=by
 unfold cS at h;split at h
 .rename_i id hid;rw[hid];rfl
 .cases h
def aHg {all:List AC}{g j:Nat}(h:cS G all g=some j):G.own g≠some .hid:=by
 unfold cS at h;split at h
 .rename_i id hid;rw[hid];simp
 .cases h
def Zi (h:Inv w0 G st a w){ok:Nat->Prop}{w':World}{rs:List (Ty×Bool)}{m:Nat}{y:Args rs}{us:List Value}(dZ:∀g,ok g->RO G false g){all:List AC}{cj:Nat->Option Nat}
  (mD:∀g j,cj g=some j->w.heap.size<=g\/(cS G all g).isSome=true) (Gw:fu rs=true)
  (df:qe w' (fun g=>cj g=none/\((G.nw g/\(G.own g=none\/(cS G all g).isSome=true))\/(m2 m=false/\ok g))) cj rs y 0 us) (hK0:fK (fun g=>(cS G all g).isSome=true) w w') {d:Tmp}
  (hfn:gN (mq d (m2 m) rs y 0).2 st=true) {bl3:List (Nat×Option gB)} {L2:List (Nat×Nat×gB×Value)}
  (hA:∀i b,look bl3 i=some (some b)->(∃z∈L2,z.2.1=i/\z.2.2.1=b)\/((∀z∈L2,z.2.1≠i)/\i ∉ jF all/\look st.bl i=some (some b))) (hBs:∀i,(look st.bl i).isSome=true->(look bl3 i).isSome=true)
  (hC:∀z∈L2,(look bl3 z.2.1).isSome=true) (hnd:∀z∈L2,∀z'∈L2,z.2.1=z'.2.1->z=z')
  (hL2:∀z∈L2,nOf rs<=z.1/\avp w' (fun g=>cj g=none/\((G.nw g/\(G.own g=none\/(cS G all g).isSome=true))\/(m2 m=false/\ok g))) (m2 m) cj G st z) (akg:∀z∈L2,∀z'∈L2,z.1=z'.1->z=z') :
  ∃G',Inv w0 G' {st with bl:=(mq d (m2 m) rs y 0).2++bl3} a w'/\cT (fv G' w' st.bx ((mq d (m2 m) rs y 0).2++bl3)) (mq d (m2 m) rs y 0).1 us:=by
 obtain⟨L1,hF,hcv⟩:=ac7 (id:=d) (f:=m2 m) Gw df;have hq:=hF.q;have aBq:∀z∈L1,look st.bl z.1=none:=fun z hz=>CN hfn z.1 (by rw[hq];exact ld hz)
 have w9:∀z,z∈L1++L2.map (·.2)->z∈L1\/∃p,(p,z)∈L2:=by
  intro z hz;rcases jx.1 hz with hz|hz
  .exact .inl hz
  .obtain⟨q,hq,rfl⟩:=Jr.1 hz;exact .inr ⟨q.1,hq⟩
 have avq:∀z∈L1,∀g,z.2.2.ownBlock=some g->∃j,cj g=some j/\j<nOf rs/\z.1=d*64+j:=by intro z hz g hg;obtain⟨h1,h2,h3⟩:=hF.rows z hz;exact⟨_,h3.rZ g hg,by omega,by omega⟩
 have hB:anl w w' G st (cS G all) cj (fun f g=>cj g=none/\((G.nw g/\(G.own g=none\/(cS G all g).isSome=true))\/(f=false/\RO G false g))) (L1++L2.map (·.2)) none st.bx ((mq d (m2 m) rs y 0).2++bl3):=by
  refine⟨hK0,fun g j hg=>X6 hg,fun g j hg=>aHg hg,mD,fun f g hg=>JD h (fun g j hg=>X6 hg) _ _ f g hg,fun z hz=>?_,fun z hz z' LH g hg hg'=>?_,fun z hz z' LH he=>?_,fun z hz=>?_,fun i b hb=>?_,fun i hi=>?_,fun z hz=>?_,fun d' l hl=>?_,
   fun d' hd=>hd,fun d' g l he=>by cases he⟩
  .rcases w9 z hz with hz|⟨p,hz⟩
   .obtain⟨h1,h2,h3⟩:=hF.rows z hz;obtain⟨rows,h4,h5⟩:=h3.row;refine⟨h3.wr,h3.pos,⟨rows,h4,af0 (fun Vf g hg=>⟨hg.1,?_⟩) h5⟩,fun g hg=>by rw[h3.rZ g hg];rfl⟩;rw[h3.nf,Vf,amP];exact hg.2.imp_right fun h=>⟨h.1,dZ g h.2⟩
   .obtain⟨h1,h3⟩:=hL2 _ hz;obtain⟨rows,h4,h5⟩:=h3.row;refine⟨h3.wr,h3.pos,⟨rows,h4,mE (fun g hg=>⟨hg.1,?_⟩) h5⟩,fun g hg=>by rw[h3.rZ g hg];rfl⟩;rw[show z.2.1.f=m2 m from h3.nf];exact hg.2.imp_right fun h=>⟨h.1,dZ g h.2⟩
  .rcases w9 z hz with hz|⟨p,hz⟩<;>rcases w9 z' LH with LH|⟨p',LH⟩
   .obtain⟨j,h1,_,h2⟩:=avq z hz g hg;obtain⟨j',h3,_,h4⟩:=avq z' LH g hg';rw[h1]at h3;cases h3;exact hF.uniq z hz z' LH (by omega)
   .obtain⟨j,h1,h2,_⟩:=avq z hz g hg;obtain⟨h3,h4⟩:=hL2 _ LH;have:=h4.rZ g hg';rw[h1]at this;cases this;dsimp only at h3;omega
   .obtain⟨j,h1,h2,_⟩:=avq z' LH g hg';obtain⟨h3,h4⟩:=hL2 _ hz;have:=h4.rZ g hg;rw[h1]at this;cases this;dsimp only at h3;omega
   .have h1:=(hL2 _ hz).2.rZ g hg;have h2:=(hL2 _ LH).2.rZ g hg';rw[h1]at h2;have:=akg _ hz _ LH (fJ h2);exact qd (·.2) this
  .rcases w9 z hz with hz|⟨p,hz⟩<;>rcases w9 z' LH with LH|⟨p',LH⟩
   .exact hF.uniq z hz z' LH he
   .obtain⟨b,h1,_⟩:=(hL2 _ LH).2.old;have h2:=aBq z hz;rw[he]at h2;rw[show look st.bl z'.1=_ from h1]at h2;cases h2
   .obtain⟨b,h1,_⟩:=(hL2 _ hz).2.old;have h2:=aBq z' LH;rw[<-he]at h2;rw[show look st.bl z.1=_ from h1]at h2;cases h2
   .exact qd (·.2) (hnd _ hz _ LH he)
  .rcases w9 z hz with hz|⟨p,hz⟩
   .exact .inl (aBq z hz)
   .exact .inr ⟨(hL2 _ hz).2.hv,(hL2 _ hz).2.old⟩
  .rw[eo]at hb;cases hl:look (mq d (m2 m) rs y 0).2 i with
   |some x =>
    rw[hl]at hb;cases hb;rw[hq]at hl;obtain⟨v,hv⟩:=ac8 hl;exact .inl ⟨v,by simp[hv]⟩
   |none =>
    rw[hl]at hb;rcases hA i b hb with ⟨z,hz,rfl,rfl⟩|⟨h1,h2,h3⟩
    .exact .inl ⟨z.2.2.2,aAW _ (Jr.2 ⟨z,hz,rfl⟩)⟩
    .refine .inr ⟨fun z hz=>?_,h3,fun g hg=>?_⟩
     .rcases w9 z hz with hz|⟨p,hz⟩
      .rintro rfl;rw[aBq z hz]at h3;cases h3
      .exact h1 _ hz
     .unfold cS;rw[hg];exact abf h2
  .rw[eo];cases hl:look (mq d (m2 m) rs y 0).2 i with
   |some x=>rfl|none=>exact hBs i hi
  .rcases w9 z hz with hz|⟨p,hz⟩
   .rw[eo,hq];have:=ld hz;cases hl:look (L1.map fun z=>(z.1,some z.2.1)) z.1 with
    |some x=>rfl|none=>rw[hl]at this;cases this
   .rw[eo];cases hl:look (mq d (m2 m) rs y 0).2 z.1 with
    |some x=>rfl|none=>exact hC _ hz
  .refine .inr ⟨fun d2 g l' he=>(by cases he),hl,?_⟩;obtain⟨cs,e,_,h2,_⟩:=h.bx d' l hl;unfold cS;rw[h2]
 obtain⟨hinv,hcell⟩:=h.back hB;have hrel:=hcv.imp fun c v hc=>Vp hcell (ax5.Ez (L':=L1++L2.map (·.2)) (fun z hz=>by simp[hz]) hc)
 exact⟨_,hinv,hrel⟩
def ann (h:Inv w0 G st a w){ok:Nat->Prop}{w':World}{rs:List (Ty×Bool)}{m:Nat}{y:Args rs}{us:List Value}(dZ:∀g,ok g->RO G false g){all:List AC}{cj:Nat->Option Nat}
  (mD:∀g j,cj g=some j->w.heap.size<=g\/(cS G all g).isSome=true) (Gw:fu rs=true)
  (df:qe w' (fun g=>cj g=none/\((G.nw g/\(G.own g=none\/(cS G all g).isSome=true))\/(m2 m=false/\ok g))) cj rs y 0 us) (hK0:fK (fun g=>(cS G all g).isSome=true) w w') {d:Tmp}
  (hd:Nat.blt d st.nt=true) (hfn:gN (mq d (m2 m) rs y 0).2 st=true) {bl3:List (Nat×Option gB)} {L2:List (Nat×Nat×gB×Value)}
  (hA:∀i b,look bl3 i=some (some b)->(∃z∈L2,z.2.1=i/\z.2.2.1=b)\/((∀z∈L2,z.2.1≠i)/\i ∉ jF all/\look st.bl i=some (some b))) (hBs:∀i,(look st.bl i).isSome=true->(look bl3 i).isSome=true)
  (hC:∀z∈L2,(look bl3 z.2.1).isSome=true) (hnd:∀z∈L2,∀z'∈L2,z.2.1=z'.2.1->z=z')
  (hL2:∀z∈L2,nOf rs<=z.1/\avp w' (fun g=>cj g=none/\((G.nw g/\(G.own g=none\/(cS G all g).isSome=true))\/(m2 m=false/\ok g))) (m2 m) cj G st z) (akg:∀z∈L2,∀z'∈L2,z.1=z'.1->z=z')
  (hr:k {(st.put d (Jt (mq d (m2 m) rs y 0).1)) with bl:=(mq d (m2 m) rs y 0).2++bl3}=some r) (hK:sg w0 k r K):K (a.put (some d) (ga us)) w':=by
 obtain⟨G',hinv,hrel⟩:=Zi h dZ mD Gw df hK0 hfn hA hBs hC hnd hL2 akg;have h2:=hinv.put d (iD hd) (yC (R:=fun _ _=>True) hrel);exact hK _ _ _ _ h2 hr
def aFa {L:List (Nat×Nat×gB×Value)}{i:Nat}:∀{x:Option gB},look (L.map fun z=>(z.2.1,some z.2.2.1)) i=some x->∃z∈L,z.2.1=i/\x=some z.2.2.1:=by
 induction L with
 |nil=>intro x h;simp[look]at h
 |cons z L ih =>
  intro x h;rw[tW,aw]at h;by_cases hi:z.2.1=i
  .rw[ai hi]at h;exact⟨z,by simp,hi,(fJ h).symm⟩
  .rw[ah hi]at h;obtain⟨y,h1,h2⟩:=ih h;exact⟨y,by simp[h1],h2⟩
def Vq {L:List (Nat×Nat×gB×Value)}{i:Nat}(h:look (L.map fun z=>(z.2.1,some z.2.2.1)) i=none):∀z∈L,z.2.1≠i:=by
 induction L with
 |nil=>intro z hz;simp at hz
 |cons y L ih =>
  rw[tW,aw]at h;by_cases hi:y.2.1=i
  .rw[ai hi]at h;cases h
  .rw[ah hi]at h;intro z hz;rcases dE.1 hz with rfl|hz
   .exact hi
   .exact ih h z hz
def aFb {bx:List (Nat×List AC)}{bl:List (Nat×Option gB)}{p:Ty×Bool}{c:CV}{u:Value}{x0:p.1.D}(hu:fv G w bx bl c u)(hi:imV st p c=some x0) :
  ∃vs,im st p.1 c.cells=some (x0,[])/\cT (bS G w bx bl) c.cells vs/\u=(match p.2 with|true=>.agg vs.toArray|false=>vs.headD undef)/\(p.2=false->vs.length=1):=by
 obtain⟨t,b⟩:=p;cases c with
 |agg l =>
  cases b with
  |false=>simp[imV]at hi
  |true =>
   simp only[imV]at hi;split at hi
   .rename_i z hz;cases hi;obtain⟨vs,hv,hrel⟩:=hu;exact⟨vs.toList,hz,hrel,by rw[hv,yr],fun hf=>by cases hf⟩
   .cases hi
 |c x =>
  cases b with
  |true=>simp[imV]at hi
  |false =>
   simp only[imV]at hi;split at hi
   .rename_i z hz;cases hi;exact⟨[u],hz,⟨hu,trivial⟩,rfl,fun _=>rfl⟩
   .cases hi
def LS (c:CV):aW [c]=c.cells:=by simp[aW]
def ax9 (h:Inv w0 G st a w){ok:Nat->Prop}{w':World}{rs:List (Ty×Bool)}{m:Nat}{q:Ty×Bool}{y:Args rs}{y2:q.1.D}{us:List Value}{u:Value}(dZ:∀g,ok g->RO G false g){c:CV}{f:Bool}{cj:Nat->Option Nat}
  (hu:fv G w st.bx st.bl c u) {x0:q.1.D} (him:imV st q c=some x0) (hrk:iB st (pmM f) [] c.cells=true)
  (mD:∀g j,cj g=some j->w.heap.size<=g\/(cS G (aW [c]) g).isSome=true)
  (Vr:qe w' (fun g=>cj g=none/\((G.nw g/\(G.own g=none\/(cS G (aW [c]) g).isSome=true))\/(m2 m=false/\ok g))) cj [q] (y2,()) (nOf rs) [u])
  (aiI:qe w' (fun g=>cj g=none/\((G.nw g/\(G.own g=none\/(cS G (aW [c]) g).isSome=true))\/(m2 m=false/\ok g))) cj rs y 0 us)
  (hK0:fK (fun g=>(cS G (aW [c]) g).isSome=true) w w') (Gw:fu rs=true) {d:Tmp} (hfn:gN (mq d (m2 m) rs y 0).2 st=true) :
  ∃G',Inv w0 G' {st with bl:=(mq d (m2 m) rs y 0).2++((ui (m2 m) q.1 y2 c.cells).1++st.bl)} a w'/\cT (fv G' w' st.bx ((mq d (m2 m) rs y 0).2++((ui (m2 m) q.1 y2 c.cells).1++st.bl))) (mq d (m2 m) rs y 0).1 us:=by
 have aMa:=X5 (st:=st) (m:=pmM f) (by cases f<;>simp[pmM]) hrk;have hcell:=LS c;obtain⟨v,vs',he,⟨cs,hfr,hv⟩,_⟩:=Vr;have hvu:v=u:=(uE he).1.symm;subst hvu;obtain⟨vs,aNY,hrel,ada,hlen⟩:=aFb hu him;have hcs:vs=cs++[]:=by
  rw[iz];cases hq2:q.2 with
  |true =>
   rw[hq2]at ada hv;rw[ada]at hv;have:=Value.agg.inj hv;simpa using qd Array.toList this
  |false =>
   rw[hq2]at ada hv;have h1:=hlen hq2;have h2:cs.length=1:=by have h3:=FrC.len hfr;obtain⟨vs1,vs2,e2,h4,h5,_⟩:=OV (ok:=fun _=>True) (aJT h) hrel aNY;have h6:=h4.len;have h7:=cT.len h5;have:vs2=[]:=Za h7.symm;subst this;rw[iz]at e2;subst e2;rw[h3,<-h6];exact h1
   match vs,cs,h1,h2,ada,hv with
   |[v1],[v2],_,_,ada,hv =>
    have:v1=v2:=by have e3:v=v1:=ada;have e4:v=v2:=hv;rw[<-e3,<-e4]
    rw[this]
 obtain⟨l1,L,e1,_,_,e4,e5,e6,e7⟩:=af5 (f:=m2 m) aNY hrel aMa.2.2 hfr hcs;rw[iz]at e1;have hnd:∀z∈L,∀z'∈L,z.2.1=z'.2.1->z=z':=by
  have hn:(L.map (·.2.1)).Nodup:=by rw[e5,<-e1];exact aMa.1
  intro z hz z' LH he;clear e4 e5 e6 e7
  induction L with
  |nil=>simp at hz
  |cons q L ih =>
   rw[tW,auY]at hn;rcases dE.1 hz with e1|h1<;>rcases dE.1 LH with e2|h2
   .rw[e1,e2]
   .exact absurd (Jr.2 ⟨z',h2,by rw[<-he,e1]⟩) hn.1
   .exact absurd (Jr.2 ⟨z,h1,by rw[he,e2]⟩) hn.1
   .exact ih hn.2 h1 h2
 refine Zi h dZ mD Gw aiI hK0 hfn (L2:=L) (bl3:=(ui (m2 m) q.1 y2 c.cells).1++st.bl) (fun i b hb=>?_) (fun i hi=>?_) (fun z hz=>?_) hnd (fun z hz=>⟨(e6 z hz).1,(e6 z hz).2.2⟩) e7
 .rw[e4,eo]at hb;cases hl:look (L.map fun z=>(z.2.1,some z.2.2.1)) i with
  |some x =>
   rw[hl]at hb;dsimp only at hb;obtain⟨z,hz,h1,h2⟩:=aFa hl;rw[h2]at hb;exact .inl ⟨z,hz,h1,fJ (fJ hb)⟩
  |none =>
   rw[hl]at hb;have hno:=Vq hl;refine .inr ⟨hno,fun hi=>?_,hb⟩;rw[hcell,e1,<-e5]at hi;obtain⟨z,hz,rfl⟩:=Jr.1 hi;exact hno z hz rfl
 .rw[e4,eo];cases hl:look (L.map fun z=>(z.2.1,some z.2.2.1)) i with
  |some x=>rfl|none=>exact hi
 .rw[e4,eo];cases hl:look (L.map fun z=>(z.2.1,some z.2.2.1)) z.2.1 with
  |some x=>rfl|none=>exact absurd rfl (Vq hl z hz)
def atr (h:Inv w0 G st a w){con:OR}{f:Bool}(Ol:con.pm=.own f){ok:Nat->Prop}{w':World}{g0:Nat}{u:Value}{y:Args con.rs×Args con.qs}{us:List Value}(dZ:∀g,ok g->RO G false g){c:CV}
  (hu:fv G w st.bx st.bl c u) {p:Ty×Bool} (hp:og con.ps con.i=some p) (hqs:aE7 con) {x0:p.1.D} (him:imV st p c=some x0) (hrk:iB st (pmM f) [] c.cells=true)
  (df:ani con w w' ok (fun g=>G.nw g/\(G.own g=none\/(cS G (aW [c]) g).isSome=true)) (cS G (aW [c])) g0 u y us) (hK0:fK (fun g=>(cS G (aW [c]) g).isSome=true) w w') {d:Tmp}
  (hr:acP con.rs con.qs con.m st c d y k=some r) (hK:sg w0 k r K):K (a.put (some d) (ga us)) w':=by
 obtain⟨cj,mD,Vr,df⟩:=df;rw[Ol]at Vr;obtain⟨ps,i,pm,rs,m,qs,g⟩:=con;dsimp only at *;unfold acP at hr;obtain⟨hc,hr⟩:=aY hr;simp only[aI,kE]at hc;obtain⟨⟨⟨hm,hfn⟩,hd⟩,Gw⟩:=hc;have hm':m=2\/m=3:=hm.imp aP aP;have aiI:qe w' (fun g=>cj g=none/\((G.nw g/\(G.own g=none\/(cS G (aW [c]) g).isSome=true))\/(m2 m=false/\ok g))) cj rs y.1 0 us:=by rcases hm' with rfl|rfl<;>exact df
 have aMa:=X5 (st:=st) (m:=pmM f) (by cases f<;>simp[pmM]) hrk;have hcell:=LS c;split at hr
 ·
  refine ann h dZ mD Gw aiI hK0 hd hfn (L2:=[]) (bl3:=(st.gone c.cells).bl) (fun i b hb=>.inr ?_) (fun i hi=>?_) (fun z hz=>by simp at hz) (fun z hz=>by simp at hz) (fun z hz=>by simp at hz) (fun z hz=>by simp at hz) hr hK
  .rw[af4]at hb;split at hb
   .cases hb
   .exact⟨fun z hz=>by simp at hz,by rw[hcell];assumption,hb⟩
  .rw[af4];split
   .rfl
   .exact hi
 ·
  rename_i q y hq;have hpq:q=p:=by
   rcases hqs with he|⟨p',he,hn⟩
   .cases he
   .cases he;rw[hp]at hn;exact(fJ hn).symm
  subst hpq;obtain⟨G',hinv,hrel⟩:=ax9 (q:=q) (y2:=y.2.1) h dZ hu him hrk mD Vr aiI hK0 Gw hfn;have h2:=hinv.put d (iD hd) (yC (R:=fun _ _=>True) hrel);exact hK _ _ _ _ h2 hr
 .cases hr
def du (g0:Nat)(g:Nat):Option Nat:=if g=g0 then some 0 else none
def qZ {g0 g:Nat}(h:g≠g0):du g0 g=none:=by simp[du,h]
def si (h:Inv w0 G st a w){b:Nat}{l0:List AC}(hl0:look st.bx b=some l0){w':World}{cj:Nat->Option Nat}
  (mD:∀g j,cj g=some j->w.heap.size<=g\/(du (G.hb b) g).isSome=true) (hK0:fK (fun g=>(du (G.hb b) g).isSome=true) w w') {p:Ty×Bool} {z:p.1.D} {cs:Array Value} {e:TypeId} {n:Nat}
  (hj:∃j,cj (G.hb b)=some j/\n<=j) (hh:w'.heap[G.hb b]?=some (.cells cs e (0,0)))
  {Eb Er:Nat->Prop} {fb f:Bool} (hEb:∀g,Eb g->(G.nw g/\(G.own g=none\/(du (G.hb b) g).isSome=true))\/(fb=false/\RO G false g))
  (hEr:∀g,Er g->(G.nw g/\(G.own g=none\/(du (G.hb b) g).isSome=true))\/(f=false/\RO G false g))
  (kz:Rd w' (fun g=>cj g=none/\Eb g) p.1 z cs.toList) {q:List (Nat×Option gB)} {L1:List (Nat×gB×Value)} {d:Nat}
  (hF:Fr w' (fun g=>cj g=none/\Er g) f cj d 0 (0+n) q L1) (hfn:gN q st=true) :
  Inv w0 (G.back w.heap.size (du (G.hb b)) cj L1 (some (b,G.hb b,ex fb p.1 z))) {st with bx:=(b,ex fb p.1 z)::st.bx,bl:=q++st.bl} a w' /\
   ∀c v,uk L1 c v->bS (G.back w.heap.size (du (G.hb b)) cj L1 (some (b,G.hb b,ex fb p.1 z))) w' ((b,ex fb p.1 z)::st.bx) (q++st.bl) c v:=by
 obtain⟨cs0,e0,_,bK,_⟩:=h.bx b l0 hl0;have hq:=hF.q;have OZ:∀g j,du (G.hb b) g=some j->(G.own g).isSome=true:=by
  intro g j hg;unfold du at hg;split at hg
  .rename_i he;rw[he,bK];rfl
  .cases hg
 have aMc:∀g j,du (G.hb b) g=some j->G.own g≠some .hid:=by
  intro g j hg;unfold du at hg;split at hg
  .rename_i he;rw[he,bK];simp
  .cases hg
 have aBq:∀z∈L1,look st.bl z.1=none:=fun z hz=>CN hfn z.1 (by rw[hq];exact ld hz)
 have akg:∀z∈L1,∀g,z.2.2.ownBlock=some g->∃j,cj g=some j/\j<n/\z.1=d*64+j:=by intro z hz g hg;obtain⟨h1,h2,h3⟩:=hF.rows z hz;exact⟨_,h3.rZ g hg,by omega,by omega⟩
 refine h.back (okE:=fun f g=>cj g=none/\((G.nw g/\(G.own g=none\/(du (G.hb b) g).isSome=true))\/(f=false/\RO G false g))) ⟨hK0,OZ,aMc,mD,fun f g hg=>JD h OZ _ _ f g hg,fun y hy=>?_,fun y hy y' hy' g hg hg'=>?_,hF.uniq,
  fun y hy=>.inl (aBq y hy),fun i bk hb=>?_,fun i hi=>?_,fun y hy=>?_,fun d' l hl=>?_,fun d' hd=>xO _ trivial hd,fun d' g l he=>?_⟩
 .obtain⟨h1,h2,h3⟩:=hF.rows y hy;obtain⟨rows,h4,h5⟩:=h3.row;refine⟨h3.wr,h3.pos,⟨rows,h4,af0 (fun Vf g hg=>⟨hg.1,?_⟩) h5⟩,fun g hg=>by rw[h3.rZ g hg];rfl⟩;rw[h3.nf,Vf,amP];exact hEr g hg.2
 .obtain⟨j,h1,_,h2⟩:=akg y hy g hg;obtain⟨j',h3,_,h4⟩:=akg y' hy' g hg';rw[h1]at h3;cases h3;exact hF.uniq y hy y' hy' (by omega)
 .rw[eo]at hb;cases hl:look q i with
  |some x =>
   rw[hl]at hb;cases hb;rw[hq]at hl;obtain⟨v,hv⟩:=ac8 hl;exact .inl ⟨v,hv⟩
  |none =>
   rw[hl]at hb;refine .inr ⟨fun y hy=>?_,hb,fun g hg=>?_⟩
   .rintro rfl;have CL:look st.bl y.1=some (some bk):=hb;rw[aBq y hy]at CL;cases CL
   .refine qZ ?_;rintro rfl;rw[bK]at hg;cases hg
 .rw[eo];cases hl:look q i with
  |some x=>rfl|none=>exact hi
 .rw[eo,hq];have:=ld hy;cases hl:look (L1.map fun z=>(z.1,some z.2.1)) y.1 with
  |some x=>rfl|none=>rw[hl]at this;cases this
 .rw[aw]at hl;by_cases hdd:b=d'
  .subst hdd;rw[ai rfl]at hl;cases hl;exact .inl ⟨_,rfl⟩
  .rw[ah hdd]at hl;refine .inr ⟨fun d2 g l' he=>(by cases he;exact hdd),hl,?_⟩;obtain⟨cs,e,_,h2,_⟩:=h.bx d' l hl;refine qZ ?_;intro he;rw[he,bK]at h2;cases h2;exact hdd rfl
 .cases he;obtain⟨j,hj1,hj2⟩:=hj;refine⟨by simp[aw],.inr rfl,⟨by rw[hj1];rfl,fun y hy hg=>?_⟩,cs,e,fb,p.1,z,hh,rfl,jE (fun g hg=>⟨hg.1,hEb g hg.2⟩) kz⟩;obtain⟨j',h1,h2,_⟩:=akg y hy _ hg;rw[hj1]at h1;cases h1;omega
def aHi (h:Inv w0 G st a w){con:OR}(Ol:con.pm=.box){ok:Nat->Prop}{w':World}{u:Value}{y:Args con.rs×Args con.qs}{us:List Value}(dZ:∀g,ok g->RO G false g){b off:Nat}{l0:List AC}(hl0:look st.bx b=some l0)
  {p:Ty×Bool} (hp:og con.ps con.i=some p) (hp2:p.2=true) (hqs:aE7 con)
  (df:ani con w w' ok (fun g=>G.nw g/\(G.own g=none\/(du (G.hb b) g).isSome=true)) (du (G.hb b)) (G.hb b) u y us) (hK0:fK (fun g=>(du (G.hb b) g).isSome=true) w w') {d:Tmp}
  (hr:ama con.rs con.qs con.m st (.c (.ptr b off)) d y k=some r) (hK:sg w0 k r K):K (a.put (some d) (ga us)) w':=by
 obtain⟨cj,mD,Vr,df⟩:=df;rw[Ol]at Vr;obtain⟨hj,cs,e,hh,hargs⟩:=Vr;obtain⟨ps,i,pm,rs,m,qs,g⟩:=con;dsimp only at *;unfold ama at hr;split at hr
 .rename_i _ q y b1 o1 hcv;cases hcv;have hpq:q=p:=by
   rcases hqs with he|⟨p',he,hn⟩
   .cases he
   .cases he;rw[hp]at hn;exact(fJ hn).symm
  subst hpq;have kz:=aBp hp2 hargs;have nil:Fr w' (fun g=>cj g=none/\((G.nw g/\(G.own g=none\/(du (G.hb b) g).isSome=true))\/(false=false/\ok g))) false cj d 0 (0+nOf rs) [] []:=Fr.nil;split at hr
  .obtain⟨hc,hr⟩:=aY hr;rw[aI]at hc;obtain⟨hinv,_⟩:=si (fb:=false) (f:=false) h hl0 mD hK0 hj hh (fun g hg=>hg.imp_right fun h=>⟨rfl,dZ g h⟩) (fun g hg=>hg.imp_right fun h=>⟨h.1,dZ g h.2⟩) kz nil rfl;have hrel:=CO (f:=false) (bx:=(b,ex false q.1 y.2.1)::st.bx) (bl:=[]++st.bl) hc.2 (kM (fun g hg=>JD (cj:=cj) h (own0:=du (G.hb b)) (fun g j hg=>by
    obtain⟨_,_,_,bK,_⟩:=h.bx b l0 hl0;unfold du at hg;split at hg
    .rename_i he;rw[he,bK];rfl
    .cases hg) [] (some (b,G.hb b,ex false q.1 y.2.1)) false g ⟨hg.1,hg.2.imp_right fun h=>⟨rfl,dZ g h⟩⟩) df)
   have h2:=hinv.put d (iD hc.1) (yC (R:=fun _ _=>True) hrel);exact hK _ _ _ _ h2 hr
  .obtain⟨hc,hr⟩:=aY hr;rw[aI]at hc;obtain⟨hinv,_⟩:=si (fb:=false) (f:=false) h hl0 mD hK0 hj hh (fun g hg=>hg.imp_right fun h=>⟨rfl,dZ g h⟩) (fun g hg=>hg.imp_right fun h=>⟨h.1,dZ g h.2⟩) kz nil rfl;have hrel:=CO (f:=true) (bx:=(b,ex false q.1 y.2.1)::st.bx) (bl:=[]++st.bl) hc.2 (kM (fun g hg=>JD (cj:=cj) h (own0:=du (G.hb b)) (fun g j hg=>by
    obtain⟨_,_,_,bK,_⟩:=h.bx b l0 hl0;unfold du at hg;split at hg
    .rename_i he;rw[he,bK];rfl
    .cases hg) [] (some (b,G.hb b,ex false q.1 y.2.1)) true g ⟨hg.1,.inl hg.2⟩) df)
   have h2:=hinv.put d (iD hc.1) (yC (R:=fun _ _=>True) hrel);exact hK _ _ _ _ h2 hr
  .obtain⟨hc,hr⟩:=aY hr;simp only[aI,kE]at hc;obtain⟨⟨⟨hm,hfn⟩,hd⟩,Gw⟩:=hc;have aiI:qe w' (fun g=>cj g=none/\((G.nw g/\(G.own g=none\/(du (G.hb b) g).isSome=true))\/(m2 m=false/\ok g))) cj rs y.1 0 us:=by rcases hm.imp aP aP with rfl|rfl<;>exact df
   obtain⟨L,hF,hcv⟩:=ac7 (id:=d) (f:=m2 m) Gw aiI;obtain⟨hinv,hcell⟩:=si (fb:=false) h hl0 mD hK0 hj hh (fun g hg=>hg.imp_right fun h=>⟨rfl,dZ g h⟩) (fun g hg=>hg.imp_right fun h=>⟨h.1,dZ g h.2⟩) kz hF hfn;have hrel:=hcv.imp fun c v hc=>Vp hcell hc
   have h2:=hinv.put d (iD hd) (yC (R:=fun _ _=>True) hrel);exact hK _ _ _ _ h2 hr
 .cases hr
def nwC (G:Gh)(fl:Bool)(b g:Nat):Prop:=(G.nw g/\(G.own g=none\/(du (G.hb b) g).isSome=true))\/(fl=false/\RO G false g)
def aHj (h:Inv w0 G st a w){con:OR}(Ol:con.pm=.cur){ok:Nat->Prop}{w':World}{u:Value}{y:Args con.rs×Args con.qs}{us:List Value}(dZ:con.m=1\/con.m=2\/∀g,ok g->RO G false g){b off:Nat}{l0:List AC}(hl0:look st.bx b=some l0)
  {p:Ty×Bool} (hp:og con.ps con.i=some p) (hp2:p.2=true) (hqs:aE7 con)
  (df:ani con w w' ok (nwC G (cZ l0) b) (du (G.hb b)) (G.hb b) u y us) (hK0:fK (fun g=>(du (G.hb b) g).isSome=true) w w') {d:Tmp}
  (hr:amb con.rs con.qs con.m st (.c (.ptr b off)) d y k=some r) (hK:sg w0 k r K):K (a.put (some d) (ga us)) w':=by
 obtain⟨cj,mD,Vr,df⟩:=df;rw[Ol]at Vr;obtain⟨hj,cs,e,hh,hargs⟩:=Vr;obtain⟨ps,i,pm,rs,m,qs,g⟩:=con;dsimp only at *;have OZ:∀g j,du (G.hb b) g=some j->(G.own g).isSome=true:=by
  intro g j hg;obtain⟨_,_,_,bK,_⟩:=h.bx b l0 hl0;unfold du at hg;split at hg
  .rename_i he;rw[he,bK];rfl
  .cases hg
 unfold amb at hr;split at hr
 .rename_i _ q y b1 o1 hcv;cases hcv;have hpq:q=p:=by
   rcases hqs with he|⟨p',he,hn⟩
   .cases he
   .cases he;rw[hp]at hn;exact(fJ hn).symm
  subst hpq;have kz:=aBp hp2 hargs;rw[hl0]at hr;dsimp only at hr;generalize cZ l0=fl at hr kz df hargs;have nil:Fr w' (fun g=>cj g=none/\(nwC G fl b g)) fl cj d 0 (0+nOf rs) [] []:=Fr.nil;split at hr
  .obtain⟨hc,hr⟩:=aY hr;rw[aI]at hc;obtain⟨hinv,_⟩:=si (fb:=fl) (f:=fl) h hl0 mD hK0 hj hh (fun g hg=>hg) (fun g hg=>hg) kz nil rfl;have aGO:∀g,ok g->RO G false g:=by
    rcases dZ with h1|h1|h1
    .cases h1
    .cases h1
    .exact h1
   have hrel:=CO (f:=false) (bx:=(b,ex fl q.1 y.2.1)::st.bx) (bl:=[]++st.bl) hc.2 (kM (fun g hg=>JD (cj:=cj) h (own0:=du (G.hb b)) OZ [] (some (b,G.hb b,ex fl q.1 y.2.1)) false g ⟨hg.1,by
    rcases hg.2 with h1|h1
    .exact h1.imp_right fun h=>⟨rfl,h.2⟩
    .exact .inr ⟨rfl,aGO g h1⟩⟩) df)
   have h2:=hinv.put d (iD hc.1) (yC (R:=fun _ _=>True) hrel);exact hK _ _ _ _ h2 hr
  .obtain⟨hc,hr⟩:=aY hr;rw[aI]at hc;obtain⟨hinv,_⟩:=si (fb:=fl) (f:=fl) h hl0 mD hK0 hj hh (fun g hg=>hg) (fun g hg=>hg) kz nil rfl;have hrel:=CO (f:=fl) (bx:=(b,ex fl q.1 y.2.1)::st.bx) (bl:=[]++st.bl) hc.2 (kM (fun g hg=>JD (cj:=cj) h (own0:=du (G.hb b)) OZ [] (some (b,G.hb b,ex fl q.1 y.2.1)) fl g ⟨hg.1,hg.2⟩) df);have h2:=hinv.put d (iD hc.1) (yC (R:=fun _ _=>True) hrel);exact hK _ _ _ _ h2 hr
  .obtain⟨hc,hr2⟩:=aY hr;simp only[aI]at hc;obtain⟨⟨⟨hm,hfn⟩,hd⟩,Gw⟩:=hc;cases aP hm;have aiI:qe w' (fun g=>cj g=none/\nwC G fl b g) cj rs y.1 0 us :=
    qe.aLl (fun g hg=>⟨hg.1,hg.2.elim (fun h=>h) fun h=>by cases h.1⟩) df
   obtain⟨L,hF,hcv⟩:=ac7 (id:=d) (f:=fl) Gw aiI;obtain⟨hinv,hcell⟩:=si (fb:=fl) h hl0 mD hK0 hj hh (fun g hg=>hg) (fun g hg=>hg) kz hF hfn;have hrel:=hcv.imp fun c v hc=>Vp hcell hc
   have h2:=hinv.put d (iD hd) (yC (R:=fun _ _=>True) hrel);exact hK _ _ _ _ h2 hr2
 .cases hr
def aDy {i:Nat}{os:List Operand}{o:Operand}(h:og os i=some o):arC st i os=st.eZ o:=by unfold arC;rw[h]
def amh {st:St}{p:Ty×Bool}{l:List AC}{y:p.1.D}(h:imV st p (.agg l)=some y):p.2=true/\im st p.1 l=some (y,[]):=by
 obtain⟨t,b⟩:=p;cases b with
 |false=>simp[imV]at h
 |true =>
  simp only[imV]at h;split at h
  .rename_i z hz;cases h;exact⟨rfl,hz⟩
  .cases h
def abg {st:St}{pm:PM}:∀(i:Nat) (ps:List (Ty×Bool)) (os:List Operand) (x:Args ps),ky st pm i ps os=some x->∃op p y,og os i=some op/\og ps i=some p/\im2 st pm p op=some y
 |0,[],os,x,hi=>by cases os<;>simp[ky]at hi
 |_+1,[],os,x,hi=>by cases os<;>simp[ky]at hi
 |0,p::ps,[],x,hi=>by simp[ky]at hi
 |_+1,p::ps,[],x,hi=>by simp[ky]at hi
 |0,p::ps,o::os,x,hi=>by
  simp only[ky]at hi;split at hi
  .rename_i y hy;exact⟨o,p,y,rfl,rfl,hy⟩
  .cases hi
 |i+1,p::ps,o::os,x,hi=>by
  simp only[ky]at hi;split at hi
  .split at hi
   .rename_i ys hys;exact abg i ps os ys hys
   .cases hi
  .cases hi
def af6:∀{l:List AC},xM l=true->∀id len,AC.own id len ∉ l
 |[],_,id,len=>by simp
 |c::l,h,id,len=>by
  cases c with
  |own i ln=>simp[xM]at h|_=>simp[af6 (l:=l) h]
def aBr {f:FuncId}{con:OR}(fF:abd P w0 f con)(h:Inv w0 G st a w){args:List Operand}{d:Tmp}{x:Args con.ps}{y:Args con.rs×Args con.qs}(hg:con.g x=some y)(hx:ky st con.pm con.i con.ps args=some x)
  (hfz:(con.pm=.cur/\(con.m=1\/con.m=2))\/∀t c v xs,c∈iC st con.pm con.i args->bS G w st.bx st.bl c v->dm st t c=some xs->∀e,Rd w (RO G false) (.sl e t) xs [v])
  (hr:(match con.pm with
   |.rd=>match rdM con.m with
    |some f=>au1 f con.rs st d y.1 k|none=>none
   |.own _=>acP con.rs con.qs con.m st (arC st con.i args) d y k|.box=>ama con.rs con.qs con.m st (arC st con.i args) d y k|.cur=>amb con.rs con.qs con.m st (arC st con.i args) d y k)=some r) (hK:sg w0 k r K) :
  Calls P f (args.map a.eval).toArray w fun e w'=>∃v,e=.returned v/\K (a.put (some d) v) w'/\∀(op:Operand) (g0:Nat),(con.pm=.box\/con.pm=.cur)->og args con.i=some op->a.eval op=.pointer (some ⟨g0,0,none⟩)->∀k,k<w.heap.size->k≠g0->w'.heap[k]?=w.heap[k]?:=by
 have hqs:=fF.2.1;obtain⟨op,p,y0,ho1,hp1,hy0⟩:=abg con.i con.ps args x hx;rw[aDy ho1]at hr;cases Ol:con.pm with
 |rd =>
  have hfz:=hfz.resolve_left fun h=>by rw[Ol]at h;cases h.1
  rw[Ol]at hr hy0;dsimp only at hr;split at hr
  .rename_i fl hm;obtain⟨_,_,_,_,_,hin⟩:=BI (ok:=RO G false) (nw:=fun g=>G.nw g/\(G.own g=none\/(none:Option Nat).isSome=true)) (own0:=fun _=>none) (g0:=0) h con.i con.ps args x hfz hx (fun p op y h1' h2 h3 h4=>by have h4:=h4 Ol;rw[Ol]at h3 ⊢;exact avo h h4 h3)
   obtain⟨o',p',e1,_,_,hin⟩:=BI (ok:=RO G false) (nw:=fun g=>G.nw g/\(G.own g=none\/(none:Option Nat).isSome=true)) (own0:=fun _=>none) (g0:=0) h con.i con.ps args x hfz hx (fun p op y h1' h2 h3 h4=>by have h4:=h4 Ol;rw[Ol]at h3 ⊢;exact avo h h4 h3)
   refine Calls.mono (fF.2.2 x y hg w h.below _ _ _ 0 _ _ (O0 h (own0:=fun _=>none) fun g j hj=>by cases hj) hin) fun e w' he=>?_
   obtain⟨us,rfl,df,hB⟩:=he;exact⟨_,rfl,aJU h (fun g hg=>hg) hm df hB hr hK,fun _ _ hp=>by rcases hp with hp|hp<;>cases hp⟩
  .cases hr
 |own fl =>
  have hfz:=hfz.resolve_left fun h=>by rw[Ol]at h;cases h.1
  rw[Ol]at hr;dsimp only at hr;have key:∀p op y,im2 st con.pm p op=some y->iB st (pmM fl) [] (st.eZ op).cells=true/\yw st [p] [st.eZ op]=true/\im1 st p op=some y:=by
   intro p op y h3;rw[Ol]at h3;simp only[im2]at h3;split at h3
   .rename_i hc;rw[aI]at hc;exact⟨hc.1,hc.2,h3⟩
   .cases h3
  obtain⟨o',p',e1,_,_,hin⟩:=BI (ok:=RO G false) (nw:=fun g=>G.nw g/\(G.own g=none\/(cS G (aW [st.eZ op]) g).isSome=true)) (own0:=cS G (aW [st.eZ op])) (g0:=0) h con.i con.ps args x hfz hx (fun p' op' y h1' h2 h3 h4=>by
   obtain⟨k1,k2,k3⟩:=key p' op' y h3;have:op'=op:=by rw[ho1]at h1';exact(fJ h1').symm
   subst this;rw[Ol];have hE:∀g,RO G (m2 (pmM fl)) g->cS G (aW [st.eZ op']) g=none/\((G.nw g/\(G.own g=none\/(cS G (aW [st.eZ op']) g).isSome=true))\/(fl=false/\RO G false g)):=by
    intro g hg;refine⟨by simp[cS,hg.1],?_⟩;rcases hg.2 with h5|h5
    .exact .inl ⟨h5,.inl hg.1⟩
    .refine .inr ⟨?_,hg.1,.inr ⟨rfl,h5.2⟩⟩;cases fl with
     |false=>rfl|true=>cases h5.1
   obtain⟨df,_⟩:=Hv (m:=pmM fl) (by cases fl<;>simp[pmM]) hE h (aW [st.eZ op']) [] [p'] [st.eZ op'] [a.eval op'] (y,()) (pre:=[]) (seen:=[]) ⟨h.eZ op',trivial⟩ (by simp) (fun id len hm=>by simp at hm) (by rw[iz,LS];exact k1) k2 (by have:imV st p' (st.eZ op')=some y:=k3;simp[BE,this])
   obtain⟨v,vs',he,hv,_⟩:=df;cases he;exact hv)
  obtain⟨k1,k2,k3⟩:=key p op y0 hy0;have:o'=op:=by rw[ho1]at e1;exact(fJ e1).symm
  subst this;refine Calls.mono (fF.2.2 x y hg w h.below _ _ _ 0 _ _ (O0 h (own0:=cS G (aW [st.eZ o'])) fun g j hj=>X6 hj) hin) fun e w' he=>?_
  obtain⟨us,rfl,df,hB⟩:=he;exact⟨_,rfl,atr h Ol (fun g hg=>hg) (h.eZ o') hp1 hqs k3 k1 df hB hr hK,fun _ _ hp=>by rcases hp with hp|hp<;>cases hp⟩
 |cur =>
  rw[Ol]at hr;dsimp only at hr;have key:∀p op y,im2 st con.pm p op=some y->∃b l,st.eZ op=.c (.ptr b 0)/\look st.bx b=some l/\xM l=true/\imV st p (.agg l)=some y:=by
   intro p op y h3;rw[Ol]at h3;simp only[im2]at h3;split at h3
   .rename_i b hb;split at h3
    .rename_i l hl;split at h3
     .rename_i hno;exact⟨b,l,hb,hl,hno,h3⟩
     .cases h3
    .cases h3
   .cases h3
  obtain⟨b,l,hb,hl,hno,him⟩:=key p op y0 hy0;have hp2:p.2=true:=(amh him).1;obtain⟨cs,e,hh,bK,hrel⟩:=h.bx b l hl;have OZ:∀g j,du (G.hb b) g=some j->(G.own g).isSome=true:=by
   intro g j hg;unfold du at hg;split at hg
   .rename_i he;rw[he,bK];rfl
   .cases hg
  obtain⟨ok,aP3,aL7,hfz⟩:∃ok:Nat->Prop,(∀g,ok g->du (G.hb b) g=none)/\(con.m=1\/con.m=2\/∀g,ok g->RO G false g)/\∀t c v xs,c∈iC st con.pm con.i args->bS G w st.bx st.bl c v->dm st t c=some xs->∀e,Rd w ok (.sl e t) xs [v]:=by
   rcases hfz with ⟨_,h1⟩|h1
   .refine⟨fun g=>∀d,G.own g≠some (.bx d),fun g hg=>qZ fun he=>hg b (by rw[he,bK]),h1.elim .inl fun h=>.inr (.inl h),fun t c v xs _ hr hd=>kL h hr hd (fun id len bk _ hlk=>⟨fun g hg d hd=>?_,fun hw g hg d hd=>?_⟩) fun f e u ys _ g hg d hd=>?_⟩
    .rw[hg.1]at hd;cases hd
    .obtain⟨_,_,h2,_⟩:=(h.bl id bk hlk).wr hw;rw[h2 g hg]at hd;cases hd
    .rw[hg.1]at hd;cases hd
   .refine⟨RO G false,fun g hg=>qZ fun he=>?_,.inr (.inr fun g hg=>hg),h1⟩;have:=hg.1;rw[he,bK]at this;cases this
  obtain⟨o',p',e1,_,_,hin⟩:=BI (ok:=ok) (nw:=nwC G (cZ l) b) (own0:=du (G.hb b)) (g0:=G.hb b) h con.i con.ps args x hfz hx (fun p' op' y h1' h2 h3 h4=>by
   have:op'=op:=by rw[ho1]at h1';exact(fJ h1').symm
   subst this;obtain⟨b',l',CL,hl',_,aMd⟩:=key p' op' y h3;rw[hb]at CL;cases CL;rw[hl]at hl';cases hl';rw[Ol];have hv:a.eval op'=.pointer (some ⟨G.hb b,0,none⟩):=by have:=h.eZ op';rw[hb]at this;exact this.2
   refine⟨hv,by simp[du],cs,e,hh,?_⟩;have hcells:∀t c v xs,c∈l->bS G w st.bx st.bl c v->dm st t c=some xs->∀e,Rd w (fun g=>du (G.hb b) g=none/\nwC G (cZ l) b g) (.sl e t) xs [v]:=by
    intro t c v xs hm hr hd;refine kL h hr hd (fun id len bk hc _=>?_) fun f e u ys hc g hg=>?_
    .subst hc;exact absurd hm (af6 hno id len)
    .subst hc;refine⟨qZ fun he=>?_,?_⟩
     .have:=hg.1;rw[he,bK]at this;cases this
     .cases Vf:cZ l with
      |true =>
       have:=OW Vf f e u ys hm;subst this;exact .inl ⟨hg.2.elim (fun h=>h) fun h=>(by cases h.1),.inl hg.1⟩
      |false=>exact .inr ⟨rfl,hg.1,hg.2.imp_right fun h=>⟨rfl,h.2⟩⟩
   obtain⟨vs1,vs2,e2,kz,hr2,_⟩:=OV hcells hrel (amh aMd).2;have:vs2=[]:=Za hr2.len.symm;subst this;rw[iz]at e2;rw[e2];exact kz)
  have:o'=op:=by rw[ho1]at e1;exact(fJ e1).symm
  subst this;have hd0:=O0 h (own0:=du (G.hb b)) OZ;refine Calls.mono (fF.2.2 x y hg w h.below ok (nwC G (cZ l) b) (du (G.hb b)) (G.hb b) _ _ ⟨fun g hg=>.inl (hd0.mD g hg),fun g j hj=>⟨.inl (hd0.bK g j hj).1,(hd0.bK g j hj).2⟩,aP3⟩ hin) fun e w' he=>?_
  obtain⟨us,rfl,df,hB⟩:=he;rw[hb]at hr;exact⟨_,rfl,aHj h Ol aL7 hl hp1 hp2 hqs df hB hr hK,fun op2 g0 _ ho2 hv k hk hne=>hB.block k hk (by
   have:op2=o':=by rw[ho1]at ho2;exact(fJ ho2).symm
   subst this;have hp:=h.eZ op2;rw[hb]at hp;have hp:a.eval op2=.pointer (some ⟨G.hb b,0,none⟩):=hp.2;rw[hv]at hp;injection hp with hp
   injection hp with hp
   injection hp with hp
   rw[qZ (fun e=>hne (by rw[e,hp]))];simp)⟩
 |box =>
  have hfz:=hfz.resolve_left fun h=>by rw[Ol]at h;cases h.1
  rw[Ol]at hr;dsimp only at hr;have key:∀p op y,im2 st con.pm p op=some y->∃b l,st.eZ op=.c (.ptr b 0)/\look st.bx b=some l/\imV st p (.agg l)=some y:=by
   intro p op y h3;rw[Ol]at h3;simp only[im2]at h3;split at h3
   .rename_i b hb;split at h3
    .rename_i l hl;exact⟨b,l,hb,hl,h3⟩
    .cases h3
   .cases h3
  obtain⟨b,l,hb,hl,him⟩:=key p op y0 hy0;have hp2:p.2=true:=(amh him).1;have OZ:∀g j,du (G.hb b) g=some j->(G.own g).isSome=true:=by
   intro g j hg;obtain⟨_,_,_,bK,_⟩:=h.bx b l hl;unfold du at hg;split at hg
   .rename_i he;rw[he,bK];rfl
   .cases hg
  obtain⟨o',p',e1,_,_,hin⟩:=BI (ok:=RO G false) (nw:=fun g=>G.nw g/\(G.own g=none\/(du (G.hb b) g).isSome=true)) (own0:=du (G.hb b)) (g0:=G.hb b) h con.i con.ps args x hfz hx (fun p' op' y h1' h2 h3 h4=>by
   have:op'=op:=by rw[ho1]at h1';exact(fJ h1').symm
   subst this;obtain⟨b',l',CL,hl',aMd⟩:=key p' op' y h3;rw[hb]at CL;cases CL;rw[hl]at hl';cases hl';rw[Ol];obtain⟨cs,e,hh,bK,hrel⟩:=h.bx b l hl;have hv:a.eval op'=.pointer (some ⟨G.hb b,0,none⟩):=by have:=h.eZ op';rw[hb]at this;exact this.2
   refine⟨hv,by simp[du],cs,e,hh,?_⟩;have hcells:∀t c v xs,c∈l->bS G w st.bx st.bl c v->dm st t c=some xs->∀e,Rd w (RO G false) (.sl e t) xs [v]:=by
    have aP4:∀(i:Nat) (os:List Operand),og os i=some op'->∀c∈l,c∈iC st .box i os:=by
     intro i
     induction i with
     |zero =>
      intro os hos c hc;cases os with
      |nil=>cases hos
      |cons o os =>
       cases hos;simp[iC,hb,hl,hc]
     |succ i ih =>
      intro os hos c hc;cases os with
      |nil=>cases hos|cons o os=>simp[iC,ih os hos c hc]
    exact fun t c v xs hm=>hfz t c v xs (by rw[Ol];exact aP4 con.i args h1' c hm)
   obtain⟨vs1,vs2,e2,kz,hr2,_⟩:=OV hcells hrel (amh aMd).2;have:vs2=[]:=Za hr2.len.symm;subst this;rw[iz]at e2;rw[e2];exact kz)
  have:o'=op:=by rw[ho1]at e1;exact(fJ e1).symm
  subst this;refine Calls.mono (fF.2.2 x y hg w h.below _ _ _ _ _ _ (O0 h OZ) hin) fun e w' he=>?_
  obtain⟨us,rfl,df,hB⟩:=he;rw[hb]at hr;exact⟨_,rfl,aHi h Ol (fun g hg=>hg) hl hp1 hp2 hqs df hB hr hK,fun op2 g0 _ ho2 hv k hk hne=>hB.block k hk (by
   have:op2=o':=by rw[ho1]at ho2;exact(fJ ho2).symm
   subst this;have hp:=h.eZ op2;rw[hb]at hp;have hp:a.eval op2=.pointer (some ⟨G.hb b,0,none⟩):=hp.2;rw[hv]at hp;injection hp with hp
   injection hp with hp
   injection hp with hp
   rw[qZ (fun e=>hne (by rw[e,hp]))];simp)⟩
def aJV {con:OR}{args:List Operand}(h:¬(con.pm=.cur/\(con.m=1\/con.m=2))):aJA st con args=iC st con.pm con.i args:=by
 unfold aJA;split
 .rename_i hp;rw[hp]at h ⊢;split
  .exact absurd ⟨rfl,.inl ‹_›⟩ h
  .exact absurd ⟨rfl,.inr ‹_›⟩ h
  .rfl
 .rfl
def ade {f:FuncId}{con:OR}(fF:abd P w0 f con)(h:Inv w0 G st a w){args:Array Operand}{ts:Array TypeId}(ho:o.op=.call {callee:=.value (.func f),args:=args,argTypes:=ts})
  (hr:acQ con st o.dst args.toList k=some r) (hK:sg w0 k r K):o.wp P a w (fun a' w'=>K a' w'/\∀(op:Operand) (g0:Nat),(con.pm=.box\/con.pm=.cur)->og args.toList con.i=some op->a.eval op=.pointer (some ⟨g0,0,none⟩)->∀k,k<w.heap.size->k≠g0->w'.heap[k]?=w.heap[k]?) Q:=by
 unfold Oper.wp;rw[JC fF.1 ho];unfold acQ at hr;dsimp only at hr;obtain⟨G1,h1,hx1,hs1,hsd⟩:=h.freeze (aJA st con args.toList);split at hr
 .rename_i x hx;cases hg:con.g x with
  |none=>rw[hg]at hr;cases hr
  |some y =>
   rw[hg]at hr;simp only[amJ]at hr;have hargs:(args.map a.eval)=(args.toList.map a.eval).toArray:=by rw[<-acM,yr]
   show Calls P f _ w _;rw[hargs];cases hd:o.dst with
   |none=>rw[hd]at hr;cases hr
   |some d =>
    rw[hd]at hr;dsimp only at hr;refine Calls.mono (aBr fF h1 hg hx (by
     by_cases hcu:con.pm=.cur/\(con.m=1\/con.m=2)
     .exact .inl hcu
     .refine .inr fun t c v xs hm=>abe h1 (nf:=false) (fun hn=>by cases hn) (fun hn=>by cases hn) t c v xs ?_
      rw[Vo hsd]at hm;rw[aJV hcu];exact hm) hr hK) fun e w' he=>?_
    obtain⟨v,rfl,hk,hx⟩:=he;exact⟨hk,hx⟩
 .cases hr
def ayb {f:FuncId}{con:OR}(fF:abd P w0 f con)(h:Inv w0 G st a w){args:Array Operand}{ts:Array TypeId}(ho:o.op=.call {callee:=.value (.func f),args:=args,argTypes:=ts})
  (hr:acQ con st o.dst args.toList k=some r) (hK:sg w0 k r K):o.wp P a w K Q:=by
 exact Oper.wp_mono (fun _ _ h=>h.1) (ade fF h ho hr hK)
def aBs:∀{t:Ty} {x:t.D},amU t x=true->aNq t x=x
 |.bool,x,h=>Eq.symm h|.int _,x,h=>(bC.1 h).symm|.str,_,h|.unit,_,h|.pair _ _,_,h|.sl _ _,_,h=>by cases h
def aBt:∀{t:Ty} {x:t.D},amU t x=false->aNr t x=x
 |.bool,x,h=>Eq.symm h|.int _,x,_=>rfl|.str,_,_|.unit,_,_|.pair _ _,_,_|.sl _ _,_,_=>rfl
def ayc {bx:List (Nat×List AC)}{bl:List (Nat×Option gB)}:∀{n:Nat} {vs:List Value},vs.length=n->(∀c∈vs,c.oneCell'=true)->cT (bS G w bx bl) (List.replicate n .any) vs
 |0,[],_,_=>trivial|n+1,v::vs,h,ho=>by rw[List.replicate_succ];exact⟨ho v (by simp),ayc (by simpa using h) fun c hc=>ho c (by simp[hc])⟩
 |0,_::_,h,_=>by simp at h
 |_+1,[],h,_=>by simp at h
def ayd {f:FuncId}{con:Sel}(fF:avn P w0 f con)(h:Inv w0 G st a w){args:Array Operand}{ts:Array TypeId}(ho:o.op=.call {callee:=.value (.func f),args:=args,argTypes:=ts})
  (hr:au2 con st o.dst args.toList k=some r) (hK:sg w0 k r K):o.wp P a w K Q:=by
 unfold Oper.wp;rw[JC fF.1 ho];unfold au2 at hr;dsimp only at hr;obtain⟨G1,h1,hx1,hs1,hsd⟩:=h.freeze (iC st (.own true) con.i args.toList);have hfz:∀t c v xs,c∈iC (st.freeze (iC st (.own true) con.i args.toList)) (.own true) con.i args.toList->bS G1 w (st.freeze (iC st (.own true) con.i args.toList)).bx (st.freeze (iC st (.own true) con.i args.toList)).bl c v->dm (st.freeze (iC st (.own true) con.i args.toList)) t c=some xs->∀e,Rd w (RO G1 false) (.sl e t) xs [v] :=
  fun t c v xs hm=>abe h1 (nf:=false) (fun hn=>by cases hn) (fun hn=>by cases hn) t c v xs (by rw[Vo hsd]at hm;exact hm)
 generalize st.freeze (iC st (.own true) con.i args.toList)=uB at hr h1 hfz;clear hx1 hs1 hsd h;split at hr
 .rename_i x hx;cases hg:con.g x with
  |none=>rw[hg]at hr;cases hr
  |some y =>
   rw[hg]at hr;simp only[amJ]at hr;have hargs:(args.map a.eval)=(args.toList.map a.eval).toArray:=by rw[<-acM,yr]
   show Calls P f _ w _;rw[hargs];cases hd:o.dst with
   |none=>rw[hd]at hr;cases hr
   |some d =>
    rw[hd]at hr;dsimp only at hr;obtain⟨op,p,y0,ho1,hp1,hy0⟩:=abg con.i con.ps args.toList x hx;rw[aDy ho1]at hr;have key:∀p op y,im2 uB (.own true) p op=some y->iB uB (pmM true) [] (uB.eZ op).cells=true/\yw uB [p] [uB.eZ op]=true/\im1 uB p op=some y:=by
     intro p op y h3;simp only[im2]at h3;split at h3
     .rename_i hc;rw[aI]at hc;exact⟨hc.1,hc.2,h3⟩
     .cases h3
    obtain⟨o',p',e1,_,_,hin⟩:=BI (ok:=RO G1 false) (nw:=fun g=>G1.nw g/\(G1.own g=none\/(cS G1 (aW [uB.eZ op]) g).isSome=true)) (own0:=cS G1 (aW [uB.eZ op])) (g0:=0) h1 con.i con.ps args.toList x hfz hx (fun p' op' y h1' h2 h3 h4=>by
     obtain⟨k1,k2,k3⟩:=key p' op' y h3;have:op'=op:=by rw[ho1]at h1';exact(fJ h1').symm
     subst this;have hE:∀g,RO G1 (m2 (pmM true)) g->cS G1 (aW [uB.eZ op']) g=none/\((G1.nw g/\(G1.own g=none\/(cS G1 (aW [uB.eZ op']) g).isSome=true))\/(true=false/\RO G1 false g)):=by
      intro g hg;refine⟨by simp[cS,hg.1],?_⟩;rcases hg.2 with h5|h5
      .exact .inl ⟨h5,.inl hg.1⟩
      .cases h5.1
     obtain⟨df,_⟩:=Hv (m:=pmM true) (by simp[pmM]) hE h1 (aW [uB.eZ op']) [] [p'] [uB.eZ op'] [a.eval op'] (y,()) (pre:=[]) (seen:=[]) ⟨h1.eZ op',trivial⟩ (by simp) (fun id len hm=>by simp at hm) (by rw[iz,LS];exact k1) k2 (by have:imV uB p' (uB.eZ op')=some y:=k3;simp[BE,this])
     obtain⟨v,vs',he,hv,_⟩:=df;cases he;exact hv)
    obtain⟨k1,k2,k3⟩:=key p op y0 hy0;have:o'=op:=by rw[ho1]at e1;exact(fJ e1).symm
    subst this;have hpq:p=con.q:=by have:=fF.2.1;rw[hp1]at this;exact fJ this
    subst hpq;refine Calls.mono (fF.2.2 x y hg w h1.below _ _ _ 0 _ _ (O0 h1 (own0:=cS G1 (aW [uB.eZ o'])) fun g j hj=>X6 hj) hin) fun e w' he=>?_
    obtain⟨us,rfl,⟨va,vb,rfl,df⟩,hB⟩:=he;show K (a.put (some d) (ga [va,vb])) w';cases hdn:amU con.b.1 y.2.1 with
    |true =>
     rw[hdn]at hr df;rw[aBs hdn]at hr;exact atr (con:=aL6 con) (f:=true) h1 rfl (fun g hg=>hg) (h1.eZ o') hp1 (.inl rfl) k3 k1 df hB hr hK
    |false =>
     rw[hdn]at hr df;rw[aBt hdn]at hr;obtain⟨hc,hr⟩:=aY (show ck _ _=some r from hr);simp only[aI]at hc;obtain⟨⟨hd1,Vf⟩,hfn⟩:=hc;obtain⟨⟨cj,mD,Vr,df⟩,avs⟩:=df;obtain⟨G',hinv,hrel⟩:=ax9 (q:=con.q) (y2:=y.2.2) (m:=2) (rs:=[con.b]) (y:=(y.2.1,())) (us:=[vb]) h1 (fun g hg=>hg) (h1.eZ o') k3 k1 mD Vr df hB Vf hfn;refine hK _ _ _ _ (hinv.put d (iD hd1) (v:=.UO (aGF con.a::(mq d true [con.b] (y.2.1,()) 0).1)) (u:=ga [va,vb]) ⟨#[va,vb],rfl,?_,hrel⟩) hr;unfold aGF;split
     .rename_i ha;obtain⟨vs,rfl,hl,aa5⟩:=avs ha;exact⟨vs,rfl,ayc hl aa5⟩
     .exact trivial
 .cases hr
end
end Go.Am
