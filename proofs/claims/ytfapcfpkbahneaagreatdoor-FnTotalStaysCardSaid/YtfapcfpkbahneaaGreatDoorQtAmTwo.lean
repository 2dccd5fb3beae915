/- Lemmas for the claim. No condition. -/
import Derived.Test.YtfapcfpkbahneaaGreatDoorQtAmCall
set_option linter.all false
namespace Go.Am
open Go.RowKit
section
variable {P:Program} {w0:fJ} {w:World} {G:Gh} {st:St} {a:Act} {α:Type} {k:St->Option α} {r:α} {K:Act->World->Prop} {Q:Exit->Act->World->Prop} {o:Oper}
theorem Jh {f:FuncId}(hf:Yf P f){args:Array Operand}{ts:Array TypeId}(ho:o.op=.call {callee:=.value (.func f),args:=args,argTypes:=ts}) :
  (execOp a.eval o).run P w=.ok (.enter f (args.map a.eval)) w:=by
 obtain⟨fn,h1,h2,h3⟩:=hf;unfold execOp;rw[ho]
 have hn : ¬ fn.name = "runtime.NumGoroutine" := by simpa using h2
 have hb:¬fn.body=none:=by intro e;rw[e]at h3;cases h3
 simp[resolve,Act.eval,Deferred.ofValue,invoke,callFunc,h1,hn,hb]
theorem Fh:∀(l:List AC) (st:St),iq st (st.freeze l)
 |[],st=>.refl st
 |c::l,st=>(rX st c).trans (Fh l (st.eo c))
theorem aaQ {G':Gh}{l:List AC}(h':Inv w0 G' (st.freeze l) a w){nf:Bool}(ho:nf=true->pY st l=true)(hn:nf=true->cV l=true) :
  ∀t c v xs,c∈l->bN G' w (st.freeze l).bx (st.freeze l).bl c v->de (st.freeze l) t c=some xs->∀e,Rd w (RO G' nf) (.sl e t) xs [v]:=by
 intro t c v xs hm hr hd e;refine kD h' hr hd (fun id len b hc hl=>?_) (fun f e u ys hc=>?_) e
 ·subst hc;have hw:b.w=false:=by
   rcases(Fh l st).bl id with h1|⟨b0,h1,h2⟩
   ·have:=Jd l st id len b hm (h1.symm.trans hl);rw[hl]at this;have:=fQ (fQ this);rw[this]
   ·rw[hl]at h2;have:=fQ (fQ h2);rw[this]
  refine⟨fun g hg=>hg.Ea fun hnf=>?_,fun hw'=>by rw[hw]at hw';cases hw'⟩;obtain⟨b0,hb0,hf⟩:=ams (ho hnf) id len hm;have:=Jd l st id len b0 hm (fi hb0);rw[hl]at this;cases this;exact hf
 ·subst hc;exact fun g hg=>hg.Ea fun hnf=>OJ (hn hnf) f e u ys hm
theorem acM {dK:St}(h:dK.tm=st.tm)(x:Operand):dK.eP x=st.eP x:=by
 have:dK.ev x=st.ev x:=by
  cases x with
  |tmp t =>
   show dK.get t=st.get t;unfold St.get;rw[h]
  |_=>rfl
 unfold St.eP;rw[this]
theorem aFA {dK:St}(h:iq st dK)(p:Ty×Bool)(o:Operand):im1 dK p o=im1 st p o:=by
 unfold im1 imV;rw[acM h.tm];split
 ·rw[uS h]
 ·rw[uS h]
 ·rfl
theorem ah8 {dK:St}(h:iq st dK):∀(ps:List (Ty×Bool)) (os:List Operand),NW dK ps os=NW st ps os
 |[],[]=>rfl
 |[],_::_=>rfl
 |_::_,[]=>rfl
 |p::ps,o::os=>by
  simp only[NW];rw[aFA h];split
  ·rw[ah8 h ps os]
  ·rfl
theorem N2 {dK:St}(h:iq st dK):∀(os:List Operand),kP dK os=kP st os
 |[]=>rfl
 |o::os=>by simp only[kP];rw[acM h.tm,N2 h os]
def aFB (G:Gh)(bx:List (Nat×List AC))(bl:List (Nat×Option gp))(g:Nat):Key->Prop
 |.bx d=>(look bx d).isSome=true/\g=G.hb d
 |.bl id=>(look bl id).isSome=true/\(G.hv id).ownBlock=some g
 |.hid=>False
theorem Inv.aNR (h:Inv w0 G st a w){w':World}{fr:Nat->Prop}(hK:fB fr w w')(hfr:∀g,fr g->(G.own g).isSome=true)(aNS:∀g,fr g->G.own g≠some .hid)
  {G2:Gh} {bx2:List (Nat×List AC)} {bl2:List (Nat×Option gp)} (hnw:G2.nw=G.nw) (dO:G2.ok=G.ok) (hold:∀g,g<w.heap.size->¬fr g->G2.own g=G.own g)
  (hs:kR G st.bx st.bl G2 bx2 bl2)
  (hbx:Xr G w G2 w'->∀d l,look bx2 d=some l->(look st.bx d=some l/\G2.hb d=G.hb d/\¬fr (G.hb d))\/(∃cs e,w'.heap[G2.hb d]?=some (.cells cs e (0,0))/\G2.own (G2.hb d)=some (.bx d)/\cT (bN G2 w' bx2 bl2) l cs.toList))
  (hbl:∀id b,look bl2 id=some (some b)->(look st.bl id=some (some b)/\G2.hv id=G.hv id/\∀g,G.own g=some (.bl id)->¬fr g)\/Ec G2 w' id b)
  (bH:∀g k,G2.own g=some k->(w.heap.size<=g\/fr g)->g<w'.heap.size/\aFB G2 bx2 bl2 g k) :
  Inv w0 G2 {st with bx:=bx2,bl:=bl2} a w'/\Xr G w G2 w':=by
 have hx:Xr G w G2 w':=by
  refine⟨hnw,dO,hK.size,fun b hb ho=>?_,fun b hb ho=>?_⟩
  ·have hne:¬fr b:=fun hf=>by have:=hfr b hf;rw[ho]at this;cases this
   exact⟨(hold b hb hne).trans ho,hK.block b hb hne⟩
  ·have hne:¬fr b:=fun hf=>aNS b hf ho
   exact⟨(hold b hb hne).trans ho,hK.block b hb hne⟩
 refine⟨⟨hnw.trans h.nw,dO.trans h.rok,?_,h.defers,h.size,h.sp.mono hx hs,h.Fe hx,fun t v hv=>(h.tm t v hv).mono hx hs,?_,?_,?_⟩,hx⟩
 ·refine h.below.step hK.os hK.tape hK.output hK.size fun k hk hf=>hK.block k (DZ hk h.below.size) fun hfk=>?_
  obtain⟨key,aJ5⟩:=mj.1 (hfr k hfk);rcases(h.own k key aJ5).1 with h1|h1
  ·omega
  ·exact hf h1
 ·intro d l hd;rcases hbx hx d l hd with ⟨h1,h2,h3⟩|h1
  ·obtain⟨cs,e,h4,h5,h6⟩:=h.bx d l h1;have hlt:=(h.own _ _ h5).2.1;refine⟨cs,e,?_,?_,h6.imp fun _ _=>bN.mono hx hs⟩
   ·rw[h2,hK.block _ hlt h3];exact h4
   ·rw[h2,hold _ hlt h3];exact h5
  ·exact h1
 ·intro id b hb;rcases hbl id b hb with ⟨h1,h2,h3⟩|h1
  ·refine(h.bl id b h1).mono hx h2 fun hw g hg ho=>?_
   have hlt:=(h.own _ _ ho).2.1;exact⟨(hold g hlt (h3 g ho)).trans ho,hK.block g hlt (h3 g ho)⟩
  ·exact h1
 ·intro g k hk;by_cases hn:w.heap.size<=g\/fr g
  ·obtain⟨h1,h2⟩:=bH g k hk hn;refine⟨?_,h1,by cases k with|bx d=>exact h2|bl id=>exact h2|hid=>exact h2.elim⟩;rcases hn with hn|hn
   ·exact .inl (cN h.below.size hn)
   ·obtain⟨key,aJ5⟩:=mj.1 (hfr g hn);exact(h.own g key aJ5).1
  ·have hlt:g<w.heap.size:=by
    by_cases hl:g<w.heap.size
    ·exact hl
    ·exact absurd (.inl (by omega)) hn
   have hnf:¬fr g:=fun hf=>hn (.inr hf)
   rw[hold g hlt hnf]at hk;obtain⟨h1,h2,h3⟩:=h.own g k hk;refine⟨h1,DZ h2 hK.size,?_⟩;cases k with
   |hid=>trivial
   |bx d=>exact⟨(hs.bx d h3.1).1,by rw[(hs.bx d h3.1).2];exact h3.2⟩
   |bl id=>exact⟨(hs.bl id h3.1).1,by rw[(hs.bl id h3.1).2.1];exact h3.2⟩
def N3 (L:List (Nat×gp×Value))(g:Nat):Option Key:=(L.find? fun z=>z.2.2.ownBlock==some g).map fun z=>.bl z.1
def Cu (L:List (Nat×gp×Value))(B:Option (Nat×Nat×List AC))(g:Nat):Option Key:=match B with
 |some (d,g0,_)=>if g=g0 then some (.bx d) else N3 L g
 |none=>N3 L g
def Gh.back (G:Gh)(size:Nat)(own0 b8:Nat->Option Nat)(L:List (Nat×gp×Value))(B:Option (Nat×Nat×List AC)):Gh :=
 {nw:=G.nw,ok:=G.ok,
  hb:=fun x=>match B with|some (d,g0,_)=>if x=d then g0 else G.hb x|none=>G.hb x,
  hv:=fun i=>match L.find? (·.1==i) with|some z=>z.2.2|none=>G.hv i,
  own:=fun g=>if g<size/\own0 g=none then G.own g else match b8 g with|none=>none|some _=>Cu L B g}
structure amz (w w':World) (G:Gh) (st:St) (own0 b8:Nat->Option Nat) (okE:Bool->Nat->Prop) (L:List (Nat×gp×Value)) (B:Option (Nat×Nat×List AC))
  (bx2:List (Nat×List AC)) (bl2:List (Nat×Option gp)):Prop where
 keeps:fB (fun g=>(own0 g).isSome=true) w w'
 pass:∀g j,own0 g=some j->(G.own g).isSome=true
 aLP:∀g j,own0 g=some j->G.own g≠some .hid
 new:∀g j,b8 g=some j->w.heap.size<=g\/(own0 g).isSome=true
 els:∀f g,okE f g->RO (G.back w.heap.size own0 b8 L B) f g
 row:∀z∈L,z.2.1.w=true/\0<z.2.1.t.n/\(∃rows,w'.ownsRow 0 z.2.1.e z.2.1.t.n z.2.2 z.2.1.xs.length rows/\fL w' (okE z.2.1.f) z.2.1.t rows z.2.1.xs)/\∀g,z.2.2.ownBlock=some g->(b8 g).isSome=true
 inj:∀z∈L,∀z'∈L,∀g,z.2.2.ownBlock=some g->z'.2.2.ownBlock=some g->z=z'
 uniq:∀z∈L,∀z'∈L,z.1=z'.1->z=z'
 name:∀z∈L,look st.bl z.1=none\/(z.2.2=G.hv z.1/\∃b,look st.bl z.1=some (some b)/\b.t=z.2.1.t)
 bl:∀i b,look bl2 i=some (some b)->(∃v,(i,b,v)∈L)\/((∀z∈L,z.1≠i)/\look st.bl i=some (some b)/\∀g,G.own g=some (.bl i)->own0 g=none)
 bls:∀i,(look st.bl i).isSome=true->(look bl2 i).isSome=true
 blL:∀z∈L,(look bl2 z.1).isSome=true
 bx:∀d l,look bx2 d=some l->(∃g0,B=some (d,g0,l))\/((∀d' g l',B=some (d',g,l')->d'≠d)/\look st.bx d=some l/\own0 (G.hb d)=none)
 bxs:∀d,(look st.bx d).isSome=true->(look bx2 d).isSome=true
 bxB:∀d g l,B=some (d,g,l)->(look bx2 d).isSome=true/\(look st.bx d=none\/G.hb d=g)/\((b8 g).isSome=true/\∀z∈L,z.2.2.ownBlock≠some g) /\
  ∃cs e f t x,w'.heap[g]?=some (.cells cs e (0,0))/\l=ex f t x/\Rd w' (okE f) t x cs.toList
theorem amz.find {w w':World}{G:Gh}{st:St}{own0 b8:Nat->Option Nat}{okE:Bool->Nat->Prop}{L:List (Nat×gp×Value)}{B:Option (Nat×Nat×List AC)}
  {bx2:List (Nat×List AC)} {bl2:List (Nat×Option gp)} (h:amz w w' G st own0 b8 okE L B bx2 bl2) {z:Nat×gp×Value} (hz:z∈L) {g:Nat} (hg:z.2.2.ownBlock=some g) :
  (G.back w.heap.size own0 b8 L B).own g=some (.bl z.1):=by
 obtain⟨j0,ho⟩:=mj.1 ((h.row z hz).2.2.2 g hg);have gF:N3 L g=some (.bl z.1):=by
  unfold N3;cases hf:L.find? fun z=>z.2.2.ownBlock==some g with
  |none =>
   have:=al4.1 hf z hz;simp[hg]at this
  |some y =>
   have h1:=ahU hf;have h2:=YL hf;have:=h.inj z hz y h2 g hg (by simpa using h1);rw[<-this];rfl
 have hne:¬(g<w.heap.size/\own0 g=none):=by
  rintro⟨h1,h2⟩;rcases h.new g _ ho with h3|h3
  ·omega
  ·rw[h2]at h3;cases h3
 unfold Gh.back;dsimp only;rw[ah hne,ho];dsimp only;unfold Cu;split
 ·rename_i d g0 l;split
  ·rename_i he;subst he;obtain⟨_,_,⟨h4,h5⟩,_⟩:=h.bxB d g l rfl;exact absurd hg (h5 z hz)
  ·exact gF
 ·exact gF
theorem Inv.back (h:Inv w0 G st a w){w':World}{own0 b8:Nat->Option Nat}{okE:Bool->Nat->Prop}{L:List (Nat×gp×Value)}{B:Option (Nat×Nat×List AC)}
  {bx2:List (Nat×List AC)} {bl2:List (Nat×Option gp)} (hB:amz w w' G st own0 b8 okE L B bx2 bl2) :
  Inv w0 (G.back w.heap.size own0 b8 L B) {st with bx:=bx2,bl:=bl2} a w'/\∀c v,tU L c v->bN (G.back w.heap.size own0 b8 L B) w' bx2 bl2 c v:=by
 have hvL:∀z∈L,(G.back w.heap.size own0 b8 L B).hv z.1=z.2.2:=by
  intro z hz;show(match L.find? (·.1==z.1) with|some z=>z.2.2|none=>G.hv z.1)=_;cases hf:L.find? (·.1==z.1) with
  |none =>
   have:=al4.1 hf z hz;simp at this
  |some y =>
   have h1:=ahU hf;have h2:=YL hf;rw[hB.uniq y h2 z hz (by simpa using h1)]
 have hvN:∀i,(∀z∈L,z.1≠i)->(G.back w.heap.size own0 b8 L B).hv i=G.hv i:=by
  intro i hi;show(match L.find? (·.1==i) with|some z=>z.2.2|none=>G.hv i)=_;cases hf:L.find? (·.1==i) with
  |none=>rfl
  |some y =>
   have h1:=ahU hf;exact absurd (by simpa using h1) (hi y (YL hf))
 have hbN:∀d,(∀d' g l,B=some (d',g,l)->d'≠d)->(G.back w.heap.size own0 b8 L B).hb d=G.hb d:=by
  intro d hd;show(match B with|some (d',g0,_)=>if d=d' then g0 else G.hb d|none=>G.hb d)=_;cases B with
  |none=>rfl
  |some q =>
   obtain⟨d',g,l⟩:=q;have:=hd d' g l rfl;show(if d=d' then g else G.hb d)=_;rw[ah fun e=>this e.symm]
 have hbB:∀d g l,B=some (d,g,l)->(G.back w.heap.size own0 b8 L B).hb d=g:=by intro d g l he;subst he;simp[Gh.back]
 have hs:kR G st.bx st.bl (G.back w.heap.size own0 b8 L B) bx2 bl2:=by
  refine⟨fun d hd=>⟨hB.bxs d hd,?_⟩,fun i hi=>⟨hB.bls i hi,?_,fun b' Cq=>?_⟩⟩
  ·by_cases hq:∃g l,B=some (d,g,l)
   ·obtain⟨g,l,hq⟩:=hq;rw[hbB d g l hq];rcases(hB.bxB d g l hq).2.1 with h1|h1
    ·rw[h1]at hd;cases hd
    ·exact h1.symm
   ·exact hbN d fun d' g l he hdd=>hq ⟨g,l,by rw[he,hdd]⟩
  ·by_cases hq:∃z∈L,z.1=i
   ·obtain⟨z,hz,rfl⟩:=hq;rw[hvL z hz];rcases hB.name z hz with h1|⟨h1,_⟩
    ·rw[h1]at hi;cases hi
    ·exact h1
   ·exact hvN i fun z hz hzi=>hq ⟨z,hz,hzi⟩
  ·rcases hB.bl i b' Cq with ⟨v,hv⟩|⟨_,h1,_⟩
   ·rcases hB.name _ hv with h1|⟨_,b,h2,h3⟩
    ·rw[h1]at hi;cases hi
    ·exact⟨b,h2,h3⟩
   ·exact⟨b',h1,rfl⟩
 have aLQ:=h.aNR (G2:=G.back w.heap.size own0 b8 L B) (bx2:=bx2) (bl2:=bl2) hB.keeps (fun g hg=>by
   obtain⟨j,hj⟩:=mj.1 hg;exact hB.pass g j hj) (fun g hg=>by
   obtain⟨j,hj⟩:=mj.1 hg;exact hB.aLP g j hj) rfl rfl (fun g hg hf=>by
   have:own0 g=none:=by
    cases ho:own0 g with
    |none=>rfl
    |some j=>rw[ho]at hf;exact absurd rfl hf
   simp[Gh.back,hg,this]) hs (fun hx d l hd=>by
   rcases hB.bx d l hd with ⟨g0,hg⟩|⟨h1,h2,h3⟩
   ·refine .inr ?_;obtain⟨_,_,⟨h40,h5⟩,cs,e,f,t,x,h6,rfl,h8⟩:=hB.bxB d g0 l hg;obtain⟨j,h4⟩:=mj.1 h40;refine⟨cs,e,by rw[hbB d g0 _ hg];exact h6,?_,UB (jr (fun g hg=>hB.els f g hg) h8)⟩;rw[hbB d g0 _ hg];have hne:¬(g0<w.heap.size/\own0 g0=none):=by
     rintro⟨h9,Sf⟩;rcases hB.new g0 j h4 with h3|h3
     ·omega
     ·rw[Sf]at h3;cases h3
    subst hg;unfold Gh.back;dsimp only;rw[ah hne,h4];simp[Cu]
   ·exact .inl ⟨h2,hbN d h1,by rw[h3];simp⟩) (fun i b hb=>by
   rcases hB.bl i b hb with ⟨v,hv⟩|⟨h1,h2,h3⟩
   ·refine .inr ?_;obtain⟨hw,hp,⟨rows,h4,h5⟩,h6⟩:=hB.row _ hv;have hhv:=hvL _ hv;refine⟨fun _=>⟨rows,?_,?_,?_⟩,fun hw'=>?_,hp⟩
    ·rw[hhv];exact h4
    ·rw[hhv];exact fun g hg=>hB.find hv hg
    ·exact mr (fun g hg=>hB.els _ g hg) h5
    ·rw[show b.w=true from hw]at hw';cases hw'
   ·exact .inl ⟨h2,hvN i h1,fun g hg=>by rw[h3 g hg];simp⟩) (fun g key hk hn=>by
   have hne:¬(g<w.heap.size/\own0 g=none):=by
    rintro⟨h1,h2⟩;rcases hn with h3|h3
    ·omega
    ·rw[h2]at h3;cases h3
   have hk0:=hk;unfold Gh.back at hk;dsimp only at hk;rw[ah hne]at hk;cases ho:b8 g with
   |none=>rw[ho]at hk;cases hk
   |some j =>
    rw[ho]at hk;dsimp only at hk;have aB4:N3 L g=some key->g<w'.heap.size/\aFB (G.back w.heap.size own0 b8 L B) bx2 bl2 g key:=by
     intro hr;unfold N3 at hr;cases hf:L.find? fun z=>z.2.2.ownBlock==some g with
     |none=>rw[hf]at hr;cases hr
     |some y =>
      rw[hf]at hr;cases hr;have h1:=ahU hf;have h2:=YL hf;have h3:y.2.2.ownBlock=some g:=by simpa using h1
      refine⟨?_,hB.blL y h2,by rw[hvL y h2];exact h3⟩;obtain⟨_,_,⟨rows,h4,_⟩,_⟩:=hB.row y h2;rcases h4.2 with ⟨he,_⟩|⟨g',cap,cur,he,_,hh,_⟩
      ·rw[he]at h3;simp[Value.ownBlock]at h3
      ·rw[he]at h3;have:g'=g:=by simpa [Value.ownBlock]using h3
       subst this;exact(AS.1 hh).1
    unfold Cu at hk;split at hk
    ·rename_i d g0 l;by_cases he:g=g0
     ·rw[ak he]at hk;cases hk;obtain⟨h1,_,_,cs,e,f,t,x,h6,_⟩:=hB.bxB d g0 l rfl;subst he;exact⟨(AS.1 h6).1,h1,(hbB d g l rfl).symm⟩
     ·rw[ah he]at hk;exact aB4 hk
    ·exact aB4 hk)
 refine⟨aLQ.1,fun c v hc=>?_⟩;cases c with
 |own i len =>
  cases len with
  |some l=>exact hc.elim
  |none =>
   obtain⟨b,hb⟩:=hc;have hhv:=hvL _ hb;refine⟨hB.blL _ hb,?_,hhv.symm⟩;rw[show(G.back w.heap.size own0 b8 L B).hv i=v from hhv];obtain⟨_,_,⟨rows,ho,_⟩,_⟩:=hB.row _ hb;rcases ho.2 with ⟨he,_⟩|⟨g',cap,cur,he,_⟩
   ·exact⟨_,_,_,he⟩
   ·exact⟨_,_,_,he⟩
 |int k n=>exact hc
 |bool b=>exact hc
 |str s=>exact hc
 |_=>exact hc.elim
def js:List AC->List Nat
 |[]=>[]
 |.own id _::l=>id::js l
 |_::l=>js l
theorem aDy {m:Nat}(hm:m=2\/m=3){seen:List Nat}{id:Nat}{len:Option Int}{l:List AC}(h:ij st m seen (.own id len::l)=true) :
  ∃b,st.rS id=some b/\(m=2->b.f=true)/\b.w=true/\id ∉ seen/\len=none/\ij st m (id::seen) l=true:=by
 simp only[ij]at h;split at h
 ·rename_i b hb;have hlen:∀o:Option Int,(match o with|none=>true|some _=>false)=true->o=none:=by
   intro o ho;cases o with
   |none=>rfl
   |some _=>cases ho
  have hns:∀c:Bool,(!c)=true->c=false:=by intro c hc;cases c with|false=>rfl|true=>cases hc
  have Bq:Yd seen id=false->id ∉ seen:=fun hf hi=>by rw[UL.2 hi]at hf;cases hf
  rcases hm with rfl|rfl
  ·simp only[aJ,mn]at h;exact⟨b,hb,fun _=>h.1.1.elim (fun h=>h.elim (fun h=>h) (fun h=>by cases h)) (fun h=>by cases h),h.1.2.1.1,Bq (hns _ h.1.2.1.2),hlen _ h.1.2.2,h.2⟩
  ·simp only[aJ]at h;exact⟨b,hb,fun h2=>(by cases h2),h.1.2.1.1,Bq (hns _ h.1.2.1.2),hlen _ h.1.2.2,h.2⟩
 ·cases h
theorem azV {m:Nat}{seen:List Nat}{c:AC}{l:List AC}(hc:∀id len,c≠.own id len)(h:ij st m seen (c::l)=true):ij st m seen l=true:=by
 cases c with
 |own id len=>exact absurd rfl (hc id len)
 |ro f e t xs=>simp only[ij,aJ]at h;exact h.2
 |_=>exact h
theorem Xv {m:Nat}(hm:m=2\/m=3):∀{l:List AC} {seen:List Nat},ij st m seen l=true->(js l).Nodup/\(∀id∈js l,id ∉ seen)/\∀id len,AC.own id len∈l->len=none/\∃b,st.rS id=some b
 |[],seen,_=>⟨List.nodup_nil,fun id hi=>by simp[js]at hi,fun id len hi=>by simp at hi⟩
 |c::l,seen,h=>by
  by_cases hc:∃id len,c=.own id len
  ·obtain⟨id,len,rfl⟩:=hc;obtain⟨b,hb,_,_,hns,hlen,ht⟩:=aDy hm h;obtain⟨h1,h2,h3⟩:=Xv hm ht;refine⟨List.nodup_cons.2 ⟨fun hi=>h2 id hi (by simp),h1⟩,fun i hi=>?_,fun i ln hi=>?_⟩
   ·rcases gS.1 (show i∈id::js l from hi) with rfl|hi
    ·exact hns
    ·exact fun hs=>h2 i hi (by simp[hs])
   ·rcases gS.1 hi with he|hi
    ·cases he;exact⟨hlen,b,hb⟩
    ·exact h3 i ln hi
  ·have hc':∀id len,c≠.own id len:=fun id len he=>hc ⟨id,len,he⟩
   obtain⟨h1,h2,h3⟩:=Xv hm (azV hc' h);have he:js (c::l)=js l:=by
    cases c with
    |own id len=>exact absurd rfl (hc' id len)
    |_=>rfl
   rw[he];refine⟨h1,h2,fun i ln hi=>?_⟩;rcases gS.1 hi with he'|hi
   ·exact absurd he'.symm (hc' i ln)
   ·exact h3 i ln hi
theorem afC (id:Nat):∀(l:List AC),look (st.gone l).bl id=if id∈js l then some none else look st.bl id
 |[]=>by simp[js,St.gone]
 |c::l=>by
  have ih:=afC id l;cases c with
  |own i len =>
   show look ((i,none)::(st.gone l).bl) id=_;rw[aw];by_cases hi:i=id
   ·simp[hi,js]
   ·rw[ah hi,ih];have hi':¬id=i:=fun e=>hi e.symm
    simp[js,hi']
  |_=>exact ih
structure aub (w':World) (okE:Nat->Prop) (f:Bool) (b8:Nat->Option Nat) (G:Gh) (st:St) (z:Nat×Nat×gp×Value):Prop where
 wr:z.2.2.1.w=true
 nf:z.2.2.1.f=f
 pos:0<z.2.2.1.t.n
 row:∃rows,w'.ownsRow 0 z.2.2.1.e z.2.2.1.t.n z.2.2.2 z.2.2.1.xs.length rows/\fL w' okE z.2.2.1.t rows z.2.2.1.xs
 rS:∀g,z.2.2.2.ownBlock=some g->b8 g=some z.1
 hv:z.2.2.2=G.hv z.2.1
 old:∃b,look st.bl z.2.1=some (some b)/\b.t=z.2.2.1.t
theorem FrC.len {w:World}{okE:Nat->Prop}{own:Nat->Option Nat}:∀{t:Ty} {x:t.D} {j:Nat} {cs:List Value},FrC w okE own t x j cs->cs.length=t.n
 |.int _,_,_,_,h=>by rw[show _=_ from h];rfl
 |.bool,_,_,_,h=>by rw[show _=_ from h];rfl
 |.str,_,_,_,h=>by rw[show _=_ from h];rfl
 |.unit,_,_,_,h=>by rw[show _=_ from h];rfl
 |.pair a b,_,_,_,h=>by obtain⟨c1,c2,rfl,h1,h2⟩:=h;simp[Ty.n,FrC.len h1,FrC.len h2]
 |.sl e t,_,_,_,h=>by obtain⟨v,rows,rfl,_⟩:=h;rfl
theorem FrC.els {w:World}{okE amA:Nat->Prop}{own:Nat->Option Nat}:∀{t:Ty} {x:t.D} {j:Nat} {cs:List Value},FrC w okE own t x j cs->(∀g,okE g->amA g)->FrC w amA own t x j cs
 |.int _,_,_,_,h,_=>h
 |.bool,_,_,_,h,_=>h
 |.str,_,_,_,h,_=>h
 |.unit,_,_,_,h,_=>h
 |.pair a b,_,_,_,h,he=>by obtain⟨c1,c2,e,h1,h2⟩:=h;exact⟨c1,c2,e,FrC.els h1 he,FrC.els h2 he⟩
 |.sl e t,_,_,_,h,he=>by obtain⟨v,rows,h1,h2,h3,h4,h5⟩:=h;exact⟨v,rows,h1,h2,h3,h4,mr he h5⟩
theorem p7.aJk {w:World}{okE amA:Nat->Prop}{own:Nat->Option Nat}(he:∀g,okE g->amA g):∀{rs:List (Ty×Bool)} {x:Args rs} {j:Nat} {vs:List Value},p7 w okE own rs x j vs->p7 w amA own rs x j vs
 |[],_,_,_,h=>h
 |_::_,_,_,_,h=>by obtain⟨v,vs',e,⟨cs,h1,h2⟩,h3⟩:=h;exact⟨v,vs',e,⟨cs,FrC.els h1 he,h2⟩,p7.aJk he h3⟩
theorem aH1 (h:Inv w0 G st a w){l:List AC}:∀t c v xs,c∈l->bN G w st.bx st.bl c v->de st t c=some xs->∀e,Rd w (fun _=>True) (.sl e t) xs [v]:=fun t c v xs _=>UK h t c v xs
theorem afD {w':World}{okE:Nat->Prop}{f:Bool}{b8:Nat->Option Nat}:∀{t:Ty} {x0 x:t.D} {j:Nat} {l l':List AC} {vs vs2 cs:List Value},
  im st t l=some (x0,l')->cT (bN G w st.bx st.bl) l vs->(∀id len,AC.own id len∈l->len=none/\∃b,st.rS id=some b)->FrC w' okE b8 t x j cs->vs=cs++vs2 ->
  ∃(l1:List AC) (L:List (Nat×Nat×gp×Value)),l=l1++l'/\cT (bN G w st.bx st.bl) l' vs2/\(tS f t x l).2=l'/\(tS f t x l).1=L.map (fun z=>(z.2.1,some z.2.2.1))/\L.map (·.2.1)=js l1 /\
   (∀z∈L,j<=z.1/\z.1<j+t.n/\aub w' okE f b8 G st z)/\(∀z∈L,∀z'∈L,z.1=z'.1->z=z')
 |.int k,x0,x,j,l,l',vs,vs2,cs,hi,hrel,bH,hf,he=>by
  cases l with
  |nil=>simp[im]at hi
  |cons c l =>
   cases c with
   |int q n =>
    simp only[im]at hi;split at hi
    ·cases hi;subst he;rw[show cs=_ from hf]at hrel;exact⟨[_],[],rfl,hrel.2,rfl,rfl,rfl,fun z hz=>by simp at hz,fun z hz=>by simp at hz⟩
    ·cases hi
   |_=>simp[im]at hi
 |.bool,x0,x,j,l,l',vs,vs2,cs,hi,hrel,bH,hf,he=>by
  cases l with
  |nil=>simp[im]at hi
  |cons c l =>
   cases c with
   |bool b =>
    simp only[im]at hi;cases hi;subst he;rw[show cs=_ from hf]at hrel;exact⟨[_],[],rfl,hrel.2,rfl,rfl,rfl,fun z hz=>by simp at hz,fun z hz=>by simp at hz⟩
   |_=>simp[im]at hi
 |.str,x0,x,j,l,l',vs,vs2,cs,hi,hrel,bH,hf,he=>by
  cases l with
  |nil=>simp[im]at hi
  |cons c l =>
   cases c with
   |str b =>
    simp only[im]at hi;cases hi;subst he;rw[show cs=_ from hf]at hrel;exact⟨[_],[],rfl,hrel.2,rfl,rfl,rfl,fun z hz=>by simp at hz,fun z hz=>by simp at hz⟩
   |_=>simp[im]at hi
 |.unit,x0,x,j,l,l',vs,vs2,cs,hi,hrel,bH,hf,he=>by simp only[im]at hi;cases hi;subst he;rw[show cs=[] from hf]at hrel;exact⟨[],[],rfl,hrel,by simp[tS],by simp[tS],rfl,fun z hz=>by simp at hz,fun z hz=>by simp at hz⟩
 |.pair p q,x0,x,j,l,l',vs,vs2,cs,hi,hrel,bH,hf,he=>by
  simp only[im]at hi;split at hi
  ·rename_i y r1 hy;split at hi
   ·rename_i z r2 hz;cases hi;obtain⟨c1,c2,rfl,hf1,hf2⟩:=hf;obtain⟨l1,L1,h1,h2,h3,h4,h5,h6,h7⟩:=afD (f:=f) hy hrel bH hf1 (by rw[he,jZ]);obtain⟨l2,L2,k1,k2,k3,k4,k5,k6,k7⟩:=afD (f:=f) (l:=r1) hz h2 (fun id len hm=>bH id len (by rw[h1];simp[hm])) hf2 rfl;refine⟨l1++l2,L1++L2,by rw[h1,k1,jZ],k2,?_,?_,?_,fun z hz=>?_,fun z hz z' Lm he'=>?_⟩
    ·simp only[tS,h3,k3]
    ·simp only[tS,h3,h4,k4,afm]
    ·rw[afm,h5,k5];have app:∀(a b:List AC),js (a++b)=js a++js b:=by
      intro a b
      induction a with
      |nil=>rfl
      |cons c a ih =>
       cases c with
       |own id len=>simp[js,ih]
       |_=>simp[js,ih]
     rw[app]
    ·rcases lX.1 hz with hz|hz
     ·obtain⟨a1,a2,a3⟩:=h6 z hz;exact⟨a1,by simp only[Ty.n];omega,a3⟩
     ·obtain⟨a1,a2,a3⟩:=k6 z hz;exact⟨by omega,by simp only[Ty.n];omega,a3⟩
    ·rcases lX.1 hz with hz|hz<;>rcases lX.1 Lm with Lm|Lm
     ·exact h7 z hz z' Lm he'
     ·have:=(h6 z hz).2.1;have:=(k6 z' Lm).1;omega
     ·have:=(k6 z hz).1;have:=(h6 z' Lm).2.1;omega
     ·exact k7 z hz z' Lm he'
   ·cases hi
  ·cases hi
 |.sl e t,x0,x,j,l,l',vs,vs2,cs,hi,hrel,bH,hf,he=>by
  cases l with
  |nil=>simp[im]at hi
  |cons c l =>
   simp only[im]at hi;split at hi
   ·rename_i ys hys;cases hi;obtain⟨v,rows,rfl,hp,ho,hb,hel⟩:=hf;subst he;have awR:bN G w st.bx st.bl c v:=hrel.1;have aFC:cT (bN G w st.bx st.bl) l' vs2:=hrel.2;cases c with
    |own id len =>
     obtain⟨hlen,b,aHV⟩:=bH id len (by simp);subst hlen;simp only[de,aHV]at hys;split at hys
     ·rename_i ht;refine⟨[.own id none],[(j,id,⟨e,t,x,f,true⟩,v)],rfl,aFC,rfl,rfl,rfl,fun z hz=>?_,fun z hz z' Lm _=>?_⟩
      ·simp at hz;subst hz;refine⟨cp _,by simp[Ty.n],rfl,rfl,hp,⟨rows,ho,hel⟩,hb,awR.2.2,b,fi aHV,Ty.beq_eq ht⟩
      ·simp at hz Lm;rw[hz,Lm]
     ·cases hys
    |nil=>exact⟨[_],[],rfl,aFC,rfl,rfl,rfl,fun z hz=>by simp at hz,fun z hz=>by simp at hz⟩
    |ro f' e' t' xs'=>exact⟨[_],[],rfl,aFC,rfl,rfl,rfl,fun z hz=>by simp at hz,fun z hz=>by simp at hz⟩
    |_=>simp[de]at hys
   ·cases hi
theorem UO {dK:St}(h:iq st dK)(pm:PM):∀(i:Nat) (os:List Operand),ik dK pm i os=ik st pm i os
 |0,[]=>rfl
 |_+1,[]=>rfl
 |0,o::os=>by simp only[ik];rw[acM h.tm,N2 h os,h.bx]
 |i+1,o::os=>by simp only[ik];rw[acM h.tm,UO h pm i os]
theorem Bs (h:Inv w0 G st a w){ok nw:Nat->Prop}{own0:Nat->Option Nat}{g0:Nat}{pm:PM}:∀(i:Nat) (ps:List (Ty×Bool)) (os:List Operand) (x:Args ps),
  (∀t c v xs,c∈ik st pm i os->bN G w st.bx st.bl c v->de st t c=some xs->∀e,Rd w ok (.sl e t) xs [v])->kr st pm i ps os=some x ->
  (∀p o y,nX os i=some o->nX ps i=some p->im2 st pm p o=some y->(pm=.rd->∀t c v xs,c∈(st.eP o).cells->bN G w st.bx st.bl c v->de st t c=some xs->∀e,Rd w ok (.sl e t) xs [v])->aLL w ok nw own0 g0 pm p y (a.eval o)) ->
  ∃o p,nX os i=some o/\nX ps i=some p/\(∃y,im2 st pm p o=some y)/\UJ w ok nw own0 g0 pm i ps x (os.map a.eval) (a.eval o)
 |0,[],os,x,_,hi,_=>by cases os<;>simp[kr]at hi
 |_+1,[],os,x,_,hi,_=>by cases os<;>simp[kr]at hi
 |0,p::ps,[],x,_,hi,_=>by simp[kr]at hi
 |_+1,p::ps,[],x,_,hi,_=>by simp[kr]at hi
 |0,p::ps,o::os,x,hc,hi,hs=>by
  simp only[kr]at hi;split at hi
  ·rename_i y hy;split at hi
   ·rename_i ys hys;cases hi;refine⟨o,p,rfl,rfl,⟨y,hy⟩,os.map a.eval,rfl,hs p o y rfl rfl hy (fun hp t c v xs hm=>hc t c v xs ?_),IP h ps os ys (fun t c v xs hm=>hc t c v xs ?_) hys⟩
    ·subst hp;simp[ik,hm]
    ·simp[ik,hm]
   ·cases hi
  ·cases hi
 |i+1,p::ps,o::os,x,hc,hi,hs=>by
  simp only[kr]at hi;split at hi
  ·rename_i y hy;split at hi
   ·rename_i ys hys;cases hi;obtain⟨o',p',h1,h2,h3,h4⟩:=Bs h i ps os ys (fun t c v xs hm=>hc t c v xs (by simp[ik,hm])) hys (fun p o y h1 h2=>hs p o y h1 h2);exact⟨o',p',h1,h2,h3,a.eval o,os.map a.eval,rfl,aua h (fun t c v xs hm=>hc t c v xs (by simp[ik,hm])) hy,h4⟩
   ·cases hi
  ·cases hi
theorem Ji (h:Inv w0 G st a w){own0 b8:Nat->Option Nat}(OM:∀g j,own0 g=some j->(G.own g).isSome=true)(L:List (Nat×gp×Value))(B:Option (Nat×Nat×List AC))(f:Bool)(g:Nat)
  (hg:b8 g=none/\((G.nw g/\(G.own g=none\/(own0 g).isSome=true))\/(f=false/\RO G false g))):RO (G.back w.heap.size own0 b8 L B) f g:=by
 obtain⟨h1,h2⟩:=hg;have bH:(G.back w.heap.size own0 b8 L B).own g=none:=by
  show(if g<w.heap.size/\own0 g=none then G.own g else match b8 g with|none=>none|some _=>Cu L B g)=none;by_cases hc:g<w.heap.size/\own0 g=none
  ·rw[ak hc];rcases h2 with ⟨_,h3|h3⟩|⟨_,h3⟩
   ·exact h3
   ·rw[hc.2]at h3;cases h3
   ·exact h3.1
  ·rw[ah hc,h1]
 refine⟨bH,?_⟩;rcases h2 with ⟨h3,_⟩|⟨h3,h4⟩
 ·exact .inl h3
 ·rcases h4.2 with h5|h5
  ·exact .inl h5
  ·exact .inr ⟨h3,h5.2⟩
theorem ON (h:Inv w0 G st a w){own0:Nat->Option Nat}(OM:∀g j,own0 g=some j->(G.own g).isSome=true) :
  Handed w (fun g=>w0.w.heap.size<=g\/w0.fr g) (RO G false) (fun g=>G.nw g/\(G.own g=none\/(own0 g).isSome=true)) own0 where
 mq g hg:=by
  refine⟨h.awE hg,.inl ?_⟩;cases ho:G.own g with
  |none=>rfl
  |some k=>have:=(h.own g k ho).2.1;omega
 bH g j hj:=by obtain⟨k,hk⟩:=mj.1 (OM g j hj);obtain⟨h1,h2,_⟩:=h.own g k hk;exact⟨⟨h.Uz hk,.inr (by rw[hj];rfl)⟩,h2,h1⟩
 dO g hg:=by
  cases ho:own0 g with
  |none=>rfl
  |some j =>
   have:=OM g j ho;rw[hg.1]at this;cases this
theorem azW {ok:Nat->Prop}{p:Ty×Bool}(hp:p.2=true){x:Args [p]}{cs:Array Value}(h:eQ w ok [p] x [.agg cs]):Rd w ok p.1 x.1 cs.toList:=by obtain⟨v,vs',he,⟨cs',h1,h2⟩,_⟩:=h;rw[hp]at h2;have:v=.agg cs:=(xX he).1.symm;rw[this]at h2;have h3:cs=cs'.toArray:=Value.agg.inj h2;rw[h3];exact h1
theorem UP {G:Gh}{bx:List (Nat×List AC)}{bl:List (Nat×Option gp)}{L:List (Nat×gp×Value)}(h:∀c v,tU L c v->bN G w bx bl c v){c:CV}{v:Value}(hc:awO L c v):fh G w bx bl c v:=by
 cases c with
 |c x=>exact h x v hc
 |agg l =>
  obtain⟨cs,he,hl⟩:=hc;exact⟨cs,he,hl.imp h⟩
theorem aH2 (h:Inv w0 G st a w){con:OE}{ok:Nat->Prop}{w':World}{g0:Nat}{u:Value}{y:Args con.rs×Args con.qs}{us:List Value}(dO:∀g,ok g->RO G false g)
  {fl:Bool} (hm:rdM con.m=some fl) (db:amw con w w' ok (fun g=>G.nw g/\(G.own g=none\/(none:Option Nat).isSome=true)) (fun _=>none) g0 u y us) (hK0:fB (fun g=>(none:Option Nat).isSome=true) w w') {d:Tmp}
  (hr:atJ fl con.rs st d y.1 k=some r) (hK:rW w0 k r K):K (a.put (some d) (fS us)) w':=by
 obtain⟨b8,mq,_,db⟩:=db;have db:∃b cs e,us=[.pointer (some ⟨b,0,none⟩)]/\w.heap.size<=b/\(b8 b).isSome=true/\w'.heap[b]?=some (.cells cs e (0,0)) /\
   eQ w' (fun g=>b8 g=none/\((G.nw g/\(G.own g=none\/(none:Option Nat).isSome=true))\/(fl=false/\ok g))) con.rs y.1 [.agg cs]:=by
  unfold rdM at hm;split at hm
  ·rename_i h4;cases hm;rw[h4]at db;obtain⟨b,cs,e,h1,h2,h3,h4,h5⟩:=db;exact⟨b,cs,e,h1,h2,h3,h4,kE (fun g hg=>⟨hg.1,.inl hg.2⟩) h5⟩
  ·rename_i h4;cases hm;rw[h4]at db;obtain⟨b,cs,e,h1,h2,h3,h4,h5⟩:=db;exact⟨b,cs,e,h1,h2,h3,h4,kE (fun g hg=>⟨hg.1,hg.2.imp_right fun h=>⟨rfl,h⟩⟩) h5⟩
  ·cases hm
 obtain⟨b,cs,e,rfl,hsz,hob,hh,hargs⟩:=db;obtain⟨ps,i,pm,rs,m,qs,g⟩:=con;dsimp only at *;unfold atJ at hr;split at hr
 ·rename_i a0 r0;split at hr
  ·rename_i hl;obtain⟨hc,hr⟩:=aY hr;rw[aJ]at hc;have kt:=azW hc.2 hargs;have hB:amz w w' G st (fun _=>none) b8 (fun f g=>b8 g=none/\((G.nw g/\(G.own g=none\/(none:Option Nat).isSome=true))\/(f=false/\RO G false g))) [] (some (d,b,ex fl a0.1 y.1.1))
     ((d,ex fl a0.1 y.1.1)::st.bx) st.bl:=by
    refine⟨hK0,fun g j hg=>(by cases hg),fun g j hg=>(by cases hg),mq,fun f g hg=>Ji h (fun g j hg=>by cases hg) [] _ f g hg,fun z hz=>(by simp at hz),fun z hz=>(by simp at hz),fun z hz=>(by simp at hz),fun z hz=>(by simp at hz),
     fun i b hb=>.inr ⟨fun z hz=>(by simp at hz),hb,fun _ _=>rfl⟩,fun i hi=>hi,fun z hz=>(by simp at hz),fun d' l hd=>?_,fun d' hd=>xj _ trivial hd,fun d' g l he=>?_⟩
    ·rw[aw]at hd;by_cases hdd:d=d'
     ·subst hdd;rw[ak rfl]at hd;cases hd;exact .inl ⟨b,rfl⟩
     ·rw[ah hdd]at hd;exact .inr ⟨fun d2 g l' he=>(by cases he;exact hdd),hd,rfl⟩
    ·cases he;refine⟨by simp[aw],.inl hl,⟨hob,fun z hz=>(by simp at hz)⟩,cs,e,fl,a0.1,y.1.1,hh,rfl,jr (fun g hg=>⟨hg.1,hg.2.imp_right fun h=>⟨h.1,dO g h.2⟩⟩) kt⟩
   obtain⟨hinv,_⟩:=h.back hB;have h2:=hinv.put d (il hc.1) (v:=.v (.c (.ptr d 0))) (u:=.pointer (some ⟨b,0,none⟩)) ⟨by simp[aw],by simp[Gh.back]⟩;exact hK _ _ _ _ h2 hr
  ·cases hr
 ·cases hr
theorem aaR {id:Nat}:∀{l:List AC} {k:Nat},id ∉ js l->UM l id k=none
 |[],_,_=>rfl
 |c::l,k,h=>by
  cases c with
  |own i len =>
   have h1:i≠id:=fun e=>h (by simp[js,e])
   have h2:id ∉ js l:=fun hi=>h (by simp[js,hi])
   simp[UM,h1,aaR h2]
  |_=>exact aaR (l:=l) h
theorem Xw {all:List AC}{g j:Nat}(h:cS G all g=some j):(G.own g).isSome=true:=by
 unfold cS at h;split at h
 ·rename_i id hid;rw[hid];rfl
 ·cases h
theorem aFD {all:List AC}{g j:Nat}(h:cS G all g=some j):G.own g≠some .hid:=by
 unfold cS at h;split at h
 ·rename_i id hid;rw[hid];simp
 ·cases h
theorem YT (h:Inv w0 G st a w){ok:Nat->Prop}{w':World}{rs:List (Ty×Bool)}{m:Nat}{y:Args rs}{us:List Value}(dO:∀g,ok g->RO G false g){all:List AC}{b8:Nat->Option Nat}
  (mq:∀g j,b8 g=some j->w.heap.size<=g\/(cS G all g).isSome=true) (F8:fg rs=true)
  (db:p7 w' (fun g=>b8 g=none/\((G.nw g/\(G.own g=none\/(cS G all g).isSome=true))\/(m2 m=false/\ok g))) b8 rs y 0 us) (hK0:fB (fun g=>(cS G all g).isSome=true) w w') {d:Tmp}
  (hfn:gE (l7 d (m2 m) rs y 0).2 st=true) {bl3:List (Nat×Option gp)} {L2:List (Nat×Nat×gp×Value)}
  (hA:∀i b,look bl3 i=some (some b)->(∃z∈L2,z.2.1=i/\z.2.2.1=b)\/((∀z∈L2,z.2.1≠i)/\i ∉ js all/\look st.bl i=some (some b))) (hBs:∀i,(look st.bl i).isSome=true->(look bl3 i).isSome=true)
  (hC:∀z∈L2,(look bl3 z.2.1).isSome=true) (hnd:∀z∈L2,∀z'∈L2,z.2.1=z'.2.1->z=z')
  (hL2:∀z∈L2,nOf rs<=z.1/\aub w' (fun g=>b8 g=none/\((G.nw g/\(G.own g=none\/(cS G all g).isSome=true))\/(m2 m=false/\ok g))) (m2 m) b8 G st z) (aqE:∀z∈L2,∀z'∈L2,z.1=z'.1->z=z') :
  ∃G',Inv w0 G' {st with bl:=(l7 d (m2 m) rs y 0).2++bl3} a w'/\cT (fh G' w' st.bx ((l7 d (m2 m) rs y 0).2++bl3)) (l7 d (m2 m) rs y 0).1 us:=by
 obtain⟨L1,hF,hcv⟩:=acI (id:=d) (f:=m2 m) F8 db;have hq:=hF.q;have azX:∀z∈L1,look st.bl z.1=none:=fun z hz=>Cs hfn z.1 (by rw[hq];exact kS hz)
 have Bq:∀z,z∈L1++L2.map (·.2)->z∈L1\/∃p,(p,z)∈L2:=by
  intro z hz;rcases lX.1 hz with hz|hz
  ·exact .inl hz
  ·obtain⟨q,hq,rfl⟩:=Lt.1 hz;exact .inr ⟨q.1,hq⟩
 have auc:∀z∈L1,∀g,z.2.2.ownBlock=some g->∃j,b8 g=some j/\j<nOf rs/\z.1=d*64+j:=by intro z hz g hg;obtain⟨h1,h2,h3⟩:=hF.rows z hz;exact⟨_,h3.rS g hg,by omega,by omega⟩
 have hB:amz w w' G st (cS G all) b8 (fun f g=>b8 g=none/\((G.nw g/\(G.own g=none\/(cS G all g).isSome=true))\/(f=false/\RO G false g))) (L1++L2.map (·.2)) none st.bx ((l7 d (m2 m) rs y 0).2++bl3):=by
  refine⟨hK0,fun g j hg=>Xw hg,fun g j hg=>aFD hg,mq,fun f g hg=>Ji h (fun g j hg=>Xw hg) _ _ f g hg,fun z hz=>?_,fun z hz z' Lm g hg hg'=>?_,fun z hz z' Lm he=>?_,fun z hz=>?_,fun i b hb=>?_,fun i hi=>?_,fun z hz=>?_,fun d' l hl=>?_,
   fun d' hd=>hd,fun d' g l he=>by cases he⟩
  ·rcases Bq z hz with hz|⟨p,hz⟩
   ·obtain⟨h1,h2,h3⟩:=hF.rows z hz;obtain⟨rows,h4,h5⟩:=h3.row;refine⟨h3.wr,h3.pos,⟨rows,h4,afy (fun UF g hg=>⟨hg.1,?_⟩) h5⟩,fun g hg=>by rw[h3.rS g hg];rfl⟩;rw[h3.nf,UF,Bool.or_false];exact hg.2.imp_right fun h=>⟨h.1,dO g h.2⟩
   ·obtain⟨h1,h3⟩:=hL2 _ hz;obtain⟨rows,h4,h5⟩:=h3.row;refine⟨h3.wr,h3.pos,⟨rows,h4,mr (fun g hg=>⟨hg.1,?_⟩) h5⟩,fun g hg=>by rw[h3.rS g hg];rfl⟩;rw[show z.2.1.f=m2 m from h3.nf];exact hg.2.imp_right fun h=>⟨h.1,dO g h.2⟩
  ·rcases Bq z hz with hz|⟨p,hz⟩<;>rcases Bq z' Lm with Lm|⟨p',Lm⟩
   ·obtain⟨j,h1,_,h2⟩:=auc z hz g hg;obtain⟨j',h3,_,h4⟩:=auc z' Lm g hg';rw[h1]at h3;cases h3;exact hF.uniq z hz z' Lm (by omega)
   ·obtain⟨j,h1,h2,_⟩:=auc z hz g hg;obtain⟨h3,h4⟩:=hL2 _ Lm;have:=h4.rS g hg';rw[h1]at this;cases this;dsimp only at h3;omega
   ·obtain⟨j,h1,h2,_⟩:=auc z' Lm g hg';obtain⟨h3,h4⟩:=hL2 _ hz;have:=h4.rS g hg;rw[h1]at this;cases this;dsimp only at h3;omega
   ·have h1:=(hL2 _ hz).2.rS g hg;have h2:=(hL2 _ Lm).2.rS g hg';rw[h1]at h2;have:=aqE _ hz _ Lm (fQ h2);exact AT (·.2) this
  ·rcases Bq z hz with hz|⟨p,hz⟩<;>rcases Bq z' Lm with Lm|⟨p',Lm⟩
   ·exact hF.uniq z hz z' Lm he
   ·obtain⟨b,h1,_⟩:=(hL2 _ Lm).2.old;have h2:=azX z hz;rw[he]at h2;rw[show look st.bl z'.1=_ from h1]at h2;cases h2
   ·obtain⟨b,h1,_⟩:=(hL2 _ hz).2.old;have h2:=azX z' Lm;rw[<-he]at h2;rw[show look st.bl z.1=_ from h1]at h2;cases h2
   ·exact AT (·.2) (hnd _ hz _ Lm he)
  ·rcases Bq z hz with hz|⟨p,hz⟩
   ·exact .inl (azX z hz)
   ·exact .inr ⟨(hL2 _ hz).2.hv,(hL2 _ hz).2.old⟩
  ·rw[dX]at hb;cases hl:look (l7 d (m2 m) rs y 0).2 i with
   |some x =>
    rw[hl]at hb;cases hb;rw[hq]at hl;obtain⟨v,hv⟩:=acJ hl;exact .inl ⟨v,by simp[hv]⟩
   |none =>
    rw[hl]at hb;rcases hA i b hb with ⟨z,hz,rfl,rfl⟩|⟨h1,h2,h3⟩
    ·exact .inl ⟨z.2.2.2,List.mem_append_right _ (Lt.2 ⟨z,hz,rfl⟩)⟩
    ·refine .inr ⟨fun z hz=>?_,h3,fun g hg=>?_⟩
     ·rcases Bq z hz with hz|⟨p,hz⟩
      ·rintro rfl;rw[azX z hz]at h3;cases h3
      ·exact h1 _ hz
     ·unfold cS;rw[hg];exact aaR h2
  ·rw[dX];cases hl:look (l7 d (m2 m) rs y 0).2 i with
   |some x=>rfl
   |none=>exact hBs i hi
  ·rcases Bq z hz with hz|⟨p,hz⟩
   ·rw[dX,hq];have:=kS hz;cases hl:look (L1.map fun z=>(z.1,some z.2.1)) z.1 with
    |some x=>rfl
    |none=>rw[hl]at this;cases this
   ·rw[dX];cases hl:look (l7 d (m2 m) rs y 0).2 z.1 with
    |some x=>rfl
    |none=>exact hC _ hz
  ·refine .inr ⟨fun d2 g l' he=>(by cases he),hl,?_⟩;obtain⟨cs,e,_,h2,_⟩:=h.bx d' l hl;unfold cS;rw[h2]
 obtain⟨hinv,hcell⟩:=h.back hB;have hrel:=hcv.imp fun c v hc=>UP hcell (awO.Ea (L':=L1++L2.map (·.2)) (fun z hz=>by simp[hz]) hc)
 exact⟨_,hinv,hrel⟩
theorem amB (h:Inv w0 G st a w){ok:Nat->Prop}{w':World}{rs:List (Ty×Bool)}{m:Nat}{y:Args rs}{us:List Value}(dO:∀g,ok g->RO G false g){all:List AC}{b8:Nat->Option Nat}
  (mq:∀g j,b8 g=some j->w.heap.size<=g\/(cS G all g).isSome=true) (F8:fg rs=true)
  (db:p7 w' (fun g=>b8 g=none/\((G.nw g/\(G.own g=none\/(cS G all g).isSome=true))\/(m2 m=false/\ok g))) b8 rs y 0 us) (hK0:fB (fun g=>(cS G all g).isSome=true) w w') {d:Tmp}
  (hd:Nat.blt d st.nt=true) (hfn:gE (l7 d (m2 m) rs y 0).2 st=true) {bl3:List (Nat×Option gp)} {L2:List (Nat×Nat×gp×Value)}
  (hA:∀i b,look bl3 i=some (some b)->(∃z∈L2,z.2.1=i/\z.2.2.1=b)\/((∀z∈L2,z.2.1≠i)/\i ∉ js all/\look st.bl i=some (some b))) (hBs:∀i,(look st.bl i).isSome=true->(look bl3 i).isSome=true)
  (hC:∀z∈L2,(look bl3 z.2.1).isSome=true) (hnd:∀z∈L2,∀z'∈L2,z.2.1=z'.2.1->z=z')
  (hL2:∀z∈L2,nOf rs<=z.1/\aub w' (fun g=>b8 g=none/\((G.nw g/\(G.own g=none\/(cS G all g).isSome=true))\/(m2 m=false/\ok g))) (m2 m) b8 G st z) (aqE:∀z∈L2,∀z'∈L2,z.1=z'.1->z=z')
  (hr:k {(st.put d (I8 (l7 d (m2 m) rs y 0).1)) with bl:=(l7 d (m2 m) rs y 0).2++bl3}=some r) (hK:rW w0 k r K):K (a.put (some d) (fS us)) w':=by
 obtain⟨G',hinv,hrel⟩:=YT h dO mq F8 db hK0 hfn hA hBs hC hnd hL2 aqE;have h2:=hinv.put d (il hd) (ya (R:=fun _ _=>True) hrel);exact hK _ _ _ _ h2 hr
theorem aDA {L:List (Nat×Nat×gp×Value)}{i:Nat}:∀{x:Option gp},look (L.map fun z=>(z.2.1,some z.2.2.1)) i=some x->∃z∈L,z.2.1=i/\x=some z.2.2.1:=by
 induction L with
 |nil=>intro x h;simp[look]at h
 |cons z L ih =>
  intro x h;rw[uh,aw]at h;by_cases hi:z.2.1=i
  ·rw[ak hi]at h;exact⟨z,by simp,hi,(fQ h).symm⟩
  ·rw[ah hi]at h;obtain⟨y,h1,h2⟩:=ih h;exact⟨y,by simp[h1],h2⟩
theorem UQ {L:List (Nat×Nat×gp×Value)}{i:Nat}(h:look (L.map fun z=>(z.2.1,some z.2.2.1)) i=none):∀z∈L,z.2.1≠i:=by
 induction L with
 |nil=>intro z hz;simp at hz
 |cons y L ih =>
  rw[uh,aw]at h;by_cases hi:y.2.1=i
  ·rw[ak hi]at h;cases h
  ·rw[ah hi]at h;intro z hz;rcases gS.1 hz with rfl|hz
   ·exact hi
   ·exact ih h z hz
theorem aDB {bx:List (Nat×List AC)}{bl:List (Nat×Option gp)}{p:Ty×Bool}{c:CV}{u:Value}{x0:p.1.D}(hu:fh G w bx bl c u)(hi:imV st p c=some x0) :
  ∃vs,im st p.1 c.cells=some (x0,[])/\cT (bN G w bx bl) c.cells vs/\u=(match p.2 with|true=>.agg vs.toArray|false=>vs.headD undef)/\(p.2=false->vs.length=1):=by
 obtain⟨t,b⟩:=p;cases c with
 |agg l =>
  cases b with
  |false=>simp[imV]at hi
  |true =>
   simp only[imV]at hi;split at hi
   ·rename_i z hz;cases hi;obtain⟨vs,hv,hrel⟩:=hu;exact⟨vs.toList,hz,hrel,by rw[hv,xW],fun hf=>by cases hf⟩
   ·cases hi
 |c x =>
  cases b with
  |true=>simp[imV]at hi
  |false =>
   simp only[imV]at hi;split at hi
   ·rename_i z hz;cases hi;exact⟨[u],hz,⟨hu,trivial⟩,rfl,fun _=>rfl⟩
   ·cases hi
theorem Lx (c:CV):aU [c]=c.cells:=by simp[aU]
theorem awS (h:Inv w0 G st a w){ok:Nat->Prop}{w':World}{rs:List (Ty×Bool)}{m:Nat}{q:Ty×Bool}{y:Args rs}{y2:q.1.D}{us:List Value}{u:Value}(dO:∀g,ok g->RO G false g){c:CV}{f:Bool}{b8:Nat->Option Nat}
  (hu:fh G w st.bx st.bl c u) {x0:q.1.D} (him:imV st q c=some x0) (hrk:ij st (pmM f) [] c.cells=true)
  (mq:∀g j,b8 g=some j->w.heap.size<=g\/(cS G (aU [c]) g).isSome=true)
  (UR:p7 w' (fun g=>b8 g=none/\((G.nw g/\(G.own g=none\/(cS G (aU [c]) g).isSome=true))\/(m2 m=false/\ok g))) b8 [q] (y2,()) (nOf rs) [u])
  (ah9:p7 w' (fun g=>b8 g=none/\((G.nw g/\(G.own g=none\/(cS G (aU [c]) g).isSome=true))\/(m2 m=false/\ok g))) b8 rs y 0 us)
  (hK0:fB (fun g=>(cS G (aU [c]) g).isSome=true) w w') (F8:fg rs=true) {d:Tmp} (hfn:gE (l7 d (m2 m) rs y 0).2 st=true) :
  ∃G',Inv w0 G' {st with bl:=(l7 d (m2 m) rs y 0).2++((tS (m2 m) q.1 y2 c.cells).1++st.bl)} a w'/\cT (fh G' w' st.bx ((l7 d (m2 m) rs y 0).2++((tS (m2 m) q.1 y2 c.cells).1++st.bl))) (l7 d (m2 m) rs y 0).1 us:=by
 have aJ7:=Xv (st:=st) (m:=pmM f) (by cases f<;>simp[pmM]) hrk;have hcell:=Lx c;obtain⟨v,vs',he,⟨cs,hfr,hv⟩,_⟩:=UR;have hvu:v=u:=(xX he).1.symm;subst hvu;obtain⟨vs,aLS,hrel,acL,hlen⟩:=aDB hu him;have hcs:vs=cs++[]:=by
  rw[ie];cases hq2:q.2 with
  |true =>
   rw[hq2]at acL hv;rw[acL]at hv;have:=Value.agg.inj hv;simpa using AT Array.toList this
  |false =>
   rw[hq2]at acL hv;have h1:=hlen hq2;have h2:cs.length=1:=by have h3:=FrC.len hfr;obtain⟨vs1,vs2,e2,h4,h5,_⟩:=OI (ok:=fun _=>True) (aH1 h) hrel aLS;have h6:=h4.len;have h7:=cT.len h5;have:vs2=[]:=YK h7.symm;subst this;rw[ie]at e2;subst e2;rw[h3,<-h6];exact h1
   match vs,cs,h1,h2,acL,hv with
   |[v1],[v2],_,_,acL,hv =>
    have:v1=v2:=by have e3:v=v1:=acL;have e4:v=v2:=hv;rw[<-e3,<-e4]
    rw[this]
 obtain⟨l1,L,e1,_,_,e4,e5,e6,e7⟩:=afD (f:=m2 m) aLS hrel aJ7.2.2 hfr hcs;rw[ie]at e1;have hnd:∀z∈L,∀z'∈L,z.2.1=z'.2.1->z=z':=by
  have hn:(L.map (·.2.1)).Nodup:=by rw[e5,<-e1];exact aJ7.1
  intro z hz z' Lm he;clear e4 e5 e6 e7
  induction L with
  |nil=>simp at hz
  |cons q L ih =>
   rw[uh,List.nodup_cons]at hn;rcases gS.1 hz with e1|h1<;>rcases gS.1 Lm with e2|h2
   ·rw[e1,e2]
   ·exact absurd (Lt.2 ⟨z',h2,by rw[<-he,e1]⟩) hn.1
   ·exact absurd (Lt.2 ⟨z,h1,by rw[he,e2]⟩) hn.1
   ·exact ih hn.2 h1 h2
 refine YT h dO mq F8 ah9 hK0 hfn (L2:=L) (bl3:=(tS (m2 m) q.1 y2 c.cells).1++st.bl) (fun i b hb=>?_) (fun i hi=>?_) (fun z hz=>?_) hnd (fun z hz=>⟨(e6 z hz).1,(e6 z hz).2.2⟩) e7
 ·rw[e4,dX]at hb;cases hl:look (L.map fun z=>(z.2.1,some z.2.2.1)) i with
  |some x =>
   rw[hl]at hb;dsimp only at hb;obtain⟨z,hz,h1,h2⟩:=aDA hl;rw[h2]at hb;exact .inl ⟨z,hz,h1,fQ (fQ hb)⟩
  |none =>
   rw[hl]at hb;have hno:=UQ hl;refine .inr ⟨hno,fun hi=>?_,hb⟩;rw[hcell,e1,<-e5]at hi;obtain⟨z,hz,rfl⟩:=Lt.1 hi;exact hno z hz rfl
 ·rw[e4,dX];cases hl:look (L.map fun z=>(z.2.1,some z.2.2.1)) i with
  |some x=>rfl
  |none=>exact hi
 ·rw[e4,dX];cases hl:look (L.map fun z=>(z.2.1,some z.2.2.1)) z.2.1 with
  |some x=>rfl
  |none=>exact absurd rfl (UQ hl z hz)
theorem aso (h:Inv w0 G st a w){con:OE}{f:Bool}(Sg:con.pm=.own f){ok:Nat->Prop}{w':World}{g0:Nat}{u:Value}{y:Args con.rs×Args con.qs}{us:List Value}(dO:∀g,ok g->RO G false g){c:CV}
  (hu:fh G w st.bx st.bl c u) {p:Ty×Bool} (hp:nX con.ps con.i=some p) (hqs:aDx con) {x0:p.1.D} (him:imV st p c=some x0) (hrk:ij st (pmM f) [] c.cells=true)
  (db:amw con w w' ok (fun g=>G.nw g/\(G.own g=none\/(cS G (aU [c]) g).isSome=true)) (cS G (aU [c])) g0 u y us) (hK0:fB (fun g=>(cS G (aU [c]) g).isSome=true) w w') {d:Tmp}
  (hr:acp con.rs con.qs con.m st c d y k=some r) (hK:rW w0 k r K):K (a.put (some d) (fS us)) w':=by
 obtain⟨b8,mq,UR,db⟩:=db;rw[Sg]at UR;obtain⟨ps,i,pm,rs,m,qs,g⟩:=con;dsimp only at *;unfold acp at hr;obtain⟨hc,hr⟩:=aY hr;simp only[aJ,mn]at hc;obtain⟨⟨⟨hm,hfn⟩,hd⟩,F8⟩:=hc;have hm':m=2\/m=3:=hm.imp aP aP;have ah9:p7 w' (fun g=>b8 g=none/\((G.nw g/\(G.own g=none\/(cS G (aU [c]) g).isSome=true))\/(m2 m=false/\ok g))) b8 rs y.1 0 us:=by rcases hm' with rfl|rfl<;>exact db
 have aJ7:=Xv (st:=st) (m:=pmM f) (by cases f<;>simp[pmM]) hrk;have hcell:=Lx c;split at hr
 ·
  refine amB h dO mq F8 ah9 hK0 hd hfn (L2:=[]) (bl3:=(st.gone c.cells).bl) (fun i b hb=>.inr ?_) (fun i hi=>?_) (fun z hz=>by simp at hz) (fun z hz=>by simp at hz) (fun z hz=>by simp at hz) (fun z hz=>by simp at hz) hr hK
  ·rw[afC]at hb;split at hb
   ·cases hb
   ·exact⟨fun z hz=>by simp at hz,by rw[hcell];assumption,hb⟩
  ·rw[afC];split
   ·rfl
   ·exact hi
 ·
  rename_i q y hq;have hpq:q=p:=by
   rcases hqs with he|⟨p',he,hn⟩
   ·cases he
   ·cases he;rw[hp]at hn;exact(fQ hn).symm
  subst hpq;obtain⟨G',hinv,hrel⟩:=awS (q:=q) (y2:=y.2.1) h dO hu him hrk mq UR ah9 hK0 F8 hfn;have h2:=hinv.put d (il hd) (ya (R:=fun _ _=>True) hrel);exact hK _ _ _ _ h2 hr
 ·cases hr
def dq (g0:Nat)(g:Nat):Option Nat:=if g=g0 then some 0 else none
theorem qR {g0 g:Nat}(h:g≠g0):dq g0 g=none:=by simp[dq,h]
theorem rY (h:Inv w0 G st a w){b:Nat}{l0:List AC}(hl0:look st.bx b=some l0){w':World}{b8:Nat->Option Nat}
  (mq:∀g j,b8 g=some j->w.heap.size<=g\/(dq (G.hb b) g).isSome=true) (hK0:fB (fun g=>(dq (G.hb b) g).isSome=true) w w') {p:Ty×Bool} {z:p.1.D} {cs:Array Value} {e:TypeId} {n:Nat}
  (hj:∃j,b8 (G.hb b)=some j/\n<=j) (hh:w'.heap[G.hb b]?=some (.cells cs e (0,0)))
  {Eb Er:Nat->Prop} {fb f:Bool} (hEb:∀g,Eb g->(G.nw g/\(G.own g=none\/(dq (G.hb b) g).isSome=true))\/(fb=false/\RO G false g))
  (hEr:∀g,Er g->(G.nw g/\(G.own g=none\/(dq (G.hb b) g).isSome=true))\/(f=false/\RO G false g))
  (kt:Rd w' (fun g=>b8 g=none/\Eb g) p.1 z cs.toList) {q:List (Nat×Option gp)} {L1:List (Nat×gp×Value)} {d:Nat}
  (hF:Fr w' (fun g=>b8 g=none/\Er g) f b8 d 0 (0+n) q L1) (hfn:gE q st=true) :
  Inv w0 (G.back w.heap.size (dq (G.hb b)) b8 L1 (some (b,G.hb b,ex fb p.1 z))) {st with bx:=(b,ex fb p.1 z)::st.bx,bl:=q++st.bl} a w' /\
   ∀c v,tU L1 c v->bN (G.back w.heap.size (dq (G.hb b)) b8 L1 (some (b,G.hb b,ex fb p.1 z))) w' ((b,ex fb p.1 z)::st.bx) (q++st.bl) c v:=by
 obtain⟨cs0,e0,_,bH,_⟩:=h.bx b l0 hl0;have hq:=hF.q;have OM:∀g j,dq (G.hb b) g=some j->(G.own g).isSome=true:=by
  intro g j hg;unfold dq at hg;split at hg
  ·rename_i he;rw[he,bH];rfl
  ·cases hg
 have aJ9:∀g j,dq (G.hb b) g=some j->G.own g≠some .hid:=by
  intro g j hg;unfold dq at hg;split at hg
  ·rename_i he;rw[he,bH];simp
  ·cases hg
 have azX:∀z∈L1,look st.bl z.1=none:=fun z hz=>Cs hfn z.1 (by rw[hq];exact kS hz)
 have aqE:∀z∈L1,∀g,z.2.2.ownBlock=some g->∃j,b8 g=some j/\j<n/\z.1=d*64+j:=by intro z hz g hg;obtain⟨h1,h2,h3⟩:=hF.rows z hz;exact⟨_,h3.rS g hg,by omega,by omega⟩
 refine h.back (okE:=fun f g=>b8 g=none/\((G.nw g/\(G.own g=none\/(dq (G.hb b) g).isSome=true))\/(f=false/\RO G false g))) ⟨hK0,OM,aJ9,mq,fun f g hg=>Ji h OM _ _ f g hg,fun y hy=>?_,fun y hy y' hy' g hg hg'=>?_,hF.uniq,
  fun y hy=>.inl (azX y hy),fun i bk hb=>?_,fun i hi=>?_,fun y hy=>?_,fun d' l hl=>?_,fun d' hd=>xj _ trivial hd,fun d' g l he=>?_⟩
 ·obtain⟨h1,h2,h3⟩:=hF.rows y hy;obtain⟨rows,h4,h5⟩:=h3.row;refine⟨h3.wr,h3.pos,⟨rows,h4,afy (fun UF g hg=>⟨hg.1,?_⟩) h5⟩,fun g hg=>by rw[h3.rS g hg];rfl⟩;rw[h3.nf,UF,Bool.or_false];exact hEr g hg.2
 ·obtain⟨j,h1,_,h2⟩:=aqE y hy g hg;obtain⟨j',h3,_,h4⟩:=aqE y' hy' g hg';rw[h1]at h3;cases h3;exact hF.uniq y hy y' hy' (by omega)
 ·rw[dX]at hb;cases hl:look q i with
  |some x =>
   rw[hl]at hb;cases hb;rw[hq]at hl;obtain⟨v,hv⟩:=acJ hl;exact .inl ⟨v,hv⟩
  |none =>
   rw[hl]at hb;refine .inr ⟨fun y hy=>?_,hb,fun g hg=>?_⟩
   ·rintro rfl;have Cq:look st.bl y.1=some (some bk):=hb;rw[azX y hy]at Cq;cases Cq
   ·refine qR ?_;rintro rfl;rw[bH]at hg;cases hg
 ·rw[dX];cases hl:look q i with
  |some x=>rfl
  |none=>exact hi
 ·rw[dX,hq];have:=kS hy;cases hl:look (L1.map fun z=>(z.1,some z.2.1)) y.1 with
  |some x=>rfl
  |none=>rw[hl]at this;cases this
 ·rw[aw]at hl;by_cases hdd:b=d'
  ·subst hdd;rw[ak rfl]at hl;cases hl;exact .inl ⟨_,rfl⟩
  ·rw[ah hdd]at hl;refine .inr ⟨fun d2 g l' he=>(by cases he;exact hdd),hl,?_⟩;obtain⟨cs,e,_,h2,_⟩:=h.bx d' l hl;refine qR ?_;intro he;rw[he,bH]at h2;cases h2;exact hdd rfl
 ·cases he;obtain⟨j,hj1,hj2⟩:=hj;refine⟨by simp[aw],.inr rfl,⟨by rw[hj1];rfl,fun y hy hg=>?_⟩,cs,e,fb,p.1,z,hh,rfl,jr (fun g hg=>⟨hg.1,hEb g hg.2⟩) kt⟩;obtain⟨j',h1,h2,_⟩:=aqE y hy _ hg;rw[hj1]at h1;cases h1;omega
theorem aFF (h:Inv w0 G st a w){con:OE}(Sg:con.pm=.box){ok:Nat->Prop}{w':World}{u:Value}{y:Args con.rs×Args con.qs}{us:List Value}(dO:∀g,ok g->RO G false g){b off:Nat}{l0:List AC}(hl0:look st.bx b=some l0)
  {p:Ty×Bool} (hp:nX con.ps con.i=some p) (hp2:p.2=true) (hqs:aDx con)
  (db:amw con w w' ok (fun g=>G.nw g/\(G.own g=none\/(dq (G.hb b) g).isSome=true)) (dq (G.hb b)) (G.hb b) u y us) (hK0:fB (fun g=>(dq (G.hb b) g).isSome=true) w w') {d:Tmp}
  (hr:alB con.rs con.qs con.m st (.c (.ptr b off)) d y k=some r) (hK:rW w0 k r K):K (a.put (some d) (fS us)) w':=by
 obtain⟨b8,mq,UR,db⟩:=db;rw[Sg]at UR;obtain⟨hj,cs,e,hh,hargs⟩:=UR;obtain⟨ps,i,pm,rs,m,qs,g⟩:=con;dsimp only at *;unfold alB at hr;split at hr
 ·rename_i _ q y b1 o1 hcv;cases hcv;have hpq:q=p:=by
   rcases hqs with he|⟨p',he,hn⟩
   ·cases he
   ·cases he;rw[hp]at hn;exact(fQ hn).symm
  subst hpq;have kt:=azW hp2 hargs;have nil:Fr w' (fun g=>b8 g=none/\((G.nw g/\(G.own g=none\/(dq (G.hb b) g).isSome=true))\/(false=false/\ok g))) false b8 d 0 (0+nOf rs) [] []:=Fr.nil;split at hr
  ·obtain⟨hc,hr⟩:=aY hr;rw[aJ]at hc;obtain⟨hinv,_⟩:=rY (fb:=false) (f:=false) h hl0 mq hK0 hj hh (fun g hg=>hg.imp_right fun h=>⟨rfl,dO g h⟩) (fun g hg=>hg.imp_right fun h=>⟨h.1,dO g h.2⟩) kt nil rfl;have hrel:=Ct (f:=false) (bx:=(b,ex false q.1 y.2.1)::st.bx) (bl:=[]++st.bl) hc.2 (kE (fun g hg=>Ji (b8:=b8) h (own0:=dq (G.hb b)) (fun g j hg=>by
    obtain⟨_,_,_,bH,_⟩:=h.bx b l0 hl0;unfold dq at hg;split at hg
    ·rename_i he;rw[he,bH];rfl
    ·cases hg) [] (some (b,G.hb b,ex false q.1 y.2.1)) false g ⟨hg.1,hg.2.imp_right fun h=>⟨rfl,dO g h⟩⟩) db)
   have h2:=hinv.put d (il hc.1) (ya (R:=fun _ _=>True) hrel);exact hK _ _ _ _ h2 hr
  ·obtain⟨hc,hr⟩:=aY hr;rw[aJ]at hc;obtain⟨hinv,_⟩:=rY (fb:=false) (f:=false) h hl0 mq hK0 hj hh (fun g hg=>hg.imp_right fun h=>⟨rfl,dO g h⟩) (fun g hg=>hg.imp_right fun h=>⟨h.1,dO g h.2⟩) kt nil rfl;have hrel:=Ct (f:=true) (bx:=(b,ex false q.1 y.2.1)::st.bx) (bl:=[]++st.bl) hc.2 (kE (fun g hg=>Ji (b8:=b8) h (own0:=dq (G.hb b)) (fun g j hg=>by
    obtain⟨_,_,_,bH,_⟩:=h.bx b l0 hl0;unfold dq at hg;split at hg
    ·rename_i he;rw[he,bH];rfl
    ·cases hg) [] (some (b,G.hb b,ex false q.1 y.2.1)) true g ⟨hg.1,.inl hg.2⟩) db)
   have h2:=hinv.put d (il hc.1) (ya (R:=fun _ _=>True) hrel);exact hK _ _ _ _ h2 hr
  ·obtain⟨hc,hr⟩:=aY hr;simp only[aJ,mn]at hc;obtain⟨⟨⟨hm,hfn⟩,hd⟩,F8⟩:=hc;have ah9:p7 w' (fun g=>b8 g=none/\((G.nw g/\(G.own g=none\/(dq (G.hb b) g).isSome=true))\/(m2 m=false/\ok g))) b8 rs y.1 0 us:=by rcases hm.imp aP aP with rfl|rfl<;>exact db
   obtain⟨L,hF,hcv⟩:=acI (id:=d) (f:=m2 m) F8 ah9;obtain⟨hinv,hcell⟩:=rY (fb:=false) h hl0 mq hK0 hj hh (fun g hg=>hg.imp_right fun h=>⟨rfl,dO g h⟩) (fun g hg=>hg.imp_right fun h=>⟨h.1,dO g h.2⟩) kt hF hfn;have hrel:=hcv.imp fun c v hc=>UP hcell hc
   have h2:=hinv.put d (il hd) (ya (R:=fun _ _=>True) hrel);exact hK _ _ _ _ h2 hr
 ·cases hr
def nwC (G:Gh)(fl:Bool)(b g:Nat):Prop:=(G.nw g/\(G.own g=none\/(dq (G.hb b) g).isSome=true))\/(fl=false/\RO G false g)
theorem aFG (h:Inv w0 G st a w){con:OE}(Sg:con.pm=.cur){ok:Nat->Prop}{w':World}{u:Value}{y:Args con.rs×Args con.qs}{us:List Value}(dO:con.m=1\/con.m=2\/∀g,ok g->RO G false g){b off:Nat}{l0:List AC}(hl0:look st.bx b=some l0)
  {p:Ty×Bool} (hp:nX con.ps con.i=some p) (hp2:p.2=true) (hqs:aDx con)
  (db:amw con w w' ok (nwC G (cV l0) b) (dq (G.hb b)) (G.hb b) u y us) (hK0:fB (fun g=>(dq (G.hb b) g).isSome=true) w w') {d:Tmp}
  (hr:alC con.rs con.qs con.m st (.c (.ptr b off)) d y k=some r) (hK:rW w0 k r K):K (a.put (some d) (fS us)) w':=by
 obtain⟨b8,mq,UR,db⟩:=db;rw[Sg]at UR;obtain⟨hj,cs,e,hh,hargs⟩:=UR;obtain⟨ps,i,pm,rs,m,qs,g⟩:=con;dsimp only at *;have OM:∀g j,dq (G.hb b) g=some j->(G.own g).isSome=true:=by
  intro g j hg;obtain⟨_,_,_,bH,_⟩:=h.bx b l0 hl0;unfold dq at hg;split at hg
  ·rename_i he;rw[he,bH];rfl
  ·cases hg
 unfold alC at hr;split at hr
 ·rename_i _ q y b1 o1 hcv;cases hcv;have hpq:q=p:=by
   rcases hqs with he|⟨p',he,hn⟩
   ·cases he
   ·cases he;rw[hp]at hn;exact(fQ hn).symm
  subst hpq;have kt:=azW hp2 hargs;rw[hl0]at hr;dsimp only at hr;generalize cV l0=fl at hr kt db hargs;have nil:Fr w' (fun g=>b8 g=none/\(nwC G fl b g)) fl b8 d 0 (0+nOf rs) [] []:=Fr.nil;split at hr
  ·obtain⟨hc,hr⟩:=aY hr;rw[aJ]at hc;obtain⟨hinv,_⟩:=rY (fb:=fl) (f:=fl) h hl0 mq hK0 hj hh (fun g hg=>hg) (fun g hg=>hg) kt nil rfl;have aFb:∀g,ok g->RO G false g:=by
    rcases dO with h1|h1|h1
    ·cases h1
    ·cases h1
    ·exact h1
   have hrel:=Ct (f:=false) (bx:=(b,ex fl q.1 y.2.1)::st.bx) (bl:=[]++st.bl) hc.2 (kE (fun g hg=>Ji (b8:=b8) h (own0:=dq (G.hb b)) OM [] (some (b,G.hb b,ex fl q.1 y.2.1)) false g ⟨hg.1,by
    rcases hg.2 with h1|h1
    ·exact h1.imp_right fun h=>⟨rfl,h.2⟩
    ·exact .inr ⟨rfl,aFb g h1⟩⟩) db)
   have h2:=hinv.put d (il hc.1) (ya (R:=fun _ _=>True) hrel);exact hK _ _ _ _ h2 hr
  ·obtain⟨hc,hr⟩:=aY hr;rw[aJ]at hc;obtain⟨hinv,_⟩:=rY (fb:=fl) (f:=fl) h hl0 mq hK0 hj hh (fun g hg=>hg) (fun g hg=>hg) kt nil rfl;have hrel:=Ct (f:=fl) (bx:=(b,ex fl q.1 y.2.1)::st.bx) (bl:=[]++st.bl) hc.2 (kE (fun g hg=>Ji (b8:=b8) h (own0:=dq (G.hb b)) OM [] (some (b,G.hb b,ex fl q.1 y.2.1)) fl g ⟨hg.1,hg.2⟩) db);have h2:=hinv.put d (il hc.1) (ya (R:=fun _ _=>True) hrel);exact hK _ _ _ _ h2 hr
  ·obtain⟨hc,hr2⟩:=aY hr;simp only[aJ]at hc;obtain⟨⟨⟨hm,hfn⟩,hd⟩,F8⟩:=hc;cases aP hm;have ah9:p7 w' (fun g=>b8 g=none/\nwC G fl b g) b8 rs y.1 0 us :=
    p7.aJk (fun g hg=>⟨hg.1,hg.2.elim (fun h=>h) fun h=>by cases h.1⟩) db
   obtain⟨L,hF,hcv⟩:=acI (id:=d) (f:=fl) F8 ah9;obtain⟨hinv,hcell⟩:=rY (fb:=fl) h hl0 mq hK0 hj hh (fun g hg=>hg) (fun g hg=>hg) kt hF hfn;have hrel:=hcv.imp fun c v hc=>UP hcell hc
   have h2:=hinv.put d (il hd) (ya (R:=fun _ _=>True) hrel);exact hK _ _ _ _ h2 hr2
 ·cases hr
theorem aB5 {i:Nat}{os:List Operand}{o:Operand}(h:nX os i=some o):aqu st i os=st.eP o:=by unfold aqu;rw[h]
theorem alI {st:St}{p:Ty×Bool}{l:List AC}{y:p.1.D}(h:imV st p (.agg l)=some y):p.2=true/\im st p.1 l=some (y,[]):=by
 obtain⟨t,b⟩:=p;cases b with
 |false=>simp[imV]at h
 |true =>
  simp only[imV]at h;split at h
  ·rename_i z hz;cases h;exact⟨rfl,hz⟩
  ·cases h
theorem aaS {st:St}{pm:PM}:∀(i:Nat) (ps:List (Ty×Bool)) (os:List Operand) (x:Args ps),kr st pm i ps os=some x->∃op p y,nX os i=some op/\nX ps i=some p/\im2 st pm p op=some y
 |0,[],os,x,hi=>by cases os<;>simp[kr]at hi
 |_+1,[],os,x,hi=>by cases os<;>simp[kr]at hi
 |0,p::ps,[],x,hi=>by simp[kr]at hi
 |_+1,p::ps,[],x,hi=>by simp[kr]at hi
 |0,p::ps,o::os,x,hi=>by
  simp only[kr]at hi;split at hi
  ·rename_i y hy;exact⟨o,p,y,rfl,rfl,hy⟩
  ·cases hi
 |i+1,p::ps,o::os,x,hi=>by
  simp only[kr]at hi;split at hi
  ·split at hi
   ·rename_i ys hys;exact aaS i ps os ys hys
   ·cases hi
  ·cases hi
theorem afE:∀{l:List AC},xh l=true->∀id len,AC.own id len ∉ l
 |[],_,id,len=>by simp
 |c::l,h,id,len=>by
  cases c with
  |own i ln=>simp[xh]at h
  |_=>simp[afE (l:=l) h]
theorem azY {f:FuncId}{con:OE}(fw:aaP P w0 f con)(h:Inv w0 G st a w){args:List Operand}{d:Tmp}{x:Args con.ps}{y:Args con.rs×Args con.qs}(hg:con.g x=some y)(hx:kr st con.pm con.i con.ps args=some x)
  (hfz:(con.pm=.cur/\(con.m=1\/con.m=2))\/∀t c v xs,c∈ik st con.pm con.i args->bN G w st.bx st.bl c v->de st t c=some xs->∀e,Rd w (RO G false) (.sl e t) xs [v])
  (hr:(match con.pm with
   |.rd=>match rdM con.m with
    |some f=>atJ f con.rs st d y.1 k
    |none=>none
   |.own _=>acp con.rs con.qs con.m st (aqu st con.i args) d y k
   |.box=>alB con.rs con.qs con.m st (aqu st con.i args) d y k
   |.cur=>alC con.rs con.qs con.m st (aqu st con.i args) d y k)=some r) (hK:rW w0 k r K) :
  Calls P f (args.map a.eval).toArray w fun e w'=>∃v,e=.returned v/\K (a.put (some d) v) w'/\∀(op:Operand) (g0:Nat),(con.pm=.box\/con.pm=.cur)->nX args con.i=some op->a.eval op=.pointer (some ⟨g0,0,none⟩)->∀k,k<w.heap.size->k≠g0->w'.heap[k]?=w.heap[k]?:=by
 have hqs:=fw.2.1;obtain⟨op,p,y0,ho1,hp1,hy0⟩:=aaS con.i con.ps args x hx;rw[aB5 ho1]at hr;cases Sg:con.pm with
 |rd =>
  have hfz:=hfz.resolve_left fun h=>by rw[Sg]at h;cases h.1
  rw[Sg]at hr hy0;dsimp only at hr;split at hr
  ·rename_i fl hm;obtain⟨_,_,_,_,_,hin⟩:=Bs (ok:=RO G false) (nw:=fun g=>G.nw g/\(G.own g=none\/(none:Option Nat).isSome=true)) (own0:=fun _=>none) (g0:=0) h con.i con.ps args x hfz hx (fun p op y h1' h2 h3 h4=>by have h4:=h4 Sg;rw[Sg]at h3 ⊢;exact aua h h4 h3)
   obtain⟨o',p',e1,_,_,hin⟩:=Bs (ok:=RO G false) (nw:=fun g=>G.nw g/\(G.own g=none\/(none:Option Nat).isSome=true)) (own0:=fun _=>none) (g0:=0) h con.i con.ps args x hfz hx (fun p op y h1' h2 h3 h4=>by have h4:=h4 Sg;rw[Sg]at h3 ⊢;exact aua h h4 h3)
   refine Calls.mono (fw.2.2 x y hg w h.below _ _ _ 0 _ _ (ON h (own0:=fun _=>none) fun g j hj=>by cases hj) hin) fun e w' he=>?_
   obtain⟨us,rfl,db,hB⟩:=he;exact⟨_,rfl,aH2 h (fun g hg=>hg) hm db hB hr hK,fun _ _ hp=>by rcases hp with hp|hp<;>cases hp⟩
  ·cases hr
 |own fl =>
  have hfz:=hfz.resolve_left fun h=>by rw[Sg]at h;cases h.1
  rw[Sg]at hr;dsimp only at hr;have key:∀p op y,im2 st con.pm p op=some y->ij st (pmM fl) [] (st.eP op).cells=true/\x4 st [p] [st.eP op]=true/\im1 st p op=some y:=by
   intro p op y h3;rw[Sg]at h3;simp only[im2]at h3;split at h3
   ·rename_i hc;rw[aJ]at hc;exact⟨hc.1,hc.2,h3⟩
   ·cases h3
  obtain⟨o',p',e1,_,_,hin⟩:=Bs (ok:=RO G false) (nw:=fun g=>G.nw g/\(G.own g=none\/(cS G (aU [st.eP op]) g).isSome=true)) (own0:=cS G (aU [st.eP op])) (g0:=0) h con.i con.ps args x hfz hx (fun p' op' y h1' h2 h3 h4=>by
   obtain⟨k1,k2,k3⟩:=key p' op' y h3;have:op'=op:=by rw[ho1]at h1';exact(fQ h1').symm
   subst this;rw[Sg];have hE:∀g,RO G (m2 (pmM fl)) g->cS G (aU [st.eP op']) g=none/\((G.nw g/\(G.own g=none\/(cS G (aU [st.eP op']) g).isSome=true))\/(fl=false/\RO G false g)):=by
    intro g hg;refine⟨by simp[cS,hg.1],?_⟩;rcases hg.2 with h5|h5
    ·exact .inl ⟨h5,.inl hg.1⟩
    ·refine .inr ⟨?_,hg.1,.inr ⟨rfl,h5.2⟩⟩;cases fl with
     |false=>rfl
     |true=>cases h5.1
   obtain⟨db,_⟩:=Hb (m:=pmM fl) (by cases fl<;>simp[pmM]) hE h (aU [st.eP op']) [] [p'] [st.eP op'] [a.eval op'] (y,()) (pre:=[]) (seen:=[]) ⟨h.eP op',trivial⟩ (by simp) (fun id len hm=>by simp at hm) (by rw[ie,Lx];exact k1) k2 (by have:imV st p' (st.eP op')=some y:=k3;simp[Bn,this])
   obtain⟨v,vs',he,hv,_⟩:=db;cases he;exact hv)
  obtain⟨k1,k2,k3⟩:=key p op y0 hy0;have:o'=op:=by rw[ho1]at e1;exact(fQ e1).symm
  subst this;refine Calls.mono (fw.2.2 x y hg w h.below _ _ _ 0 _ _ (ON h (own0:=cS G (aU [st.eP o'])) fun g j hj=>Xw hj) hin) fun e w' he=>?_
  obtain⟨us,rfl,db,hB⟩:=he;exact⟨_,rfl,aso h Sg (fun g hg=>hg) (h.eP o') hp1 hqs k3 k1 db hB hr hK,fun _ _ hp=>by rcases hp with hp|hp<;>cases hp⟩
 |cur =>
  rw[Sg]at hr;dsimp only at hr;have key:∀p op y,im2 st con.pm p op=some y->∃b l,st.eP op=.c (.ptr b 0)/\look st.bx b=some l/\xh l=true/\imV st p (.agg l)=some y:=by
   intro p op y h3;rw[Sg]at h3;simp only[im2]at h3;split at h3
   ·rename_i b hb;split at h3
    ·rename_i l hl;split at h3
     ·rename_i hno;exact⟨b,l,hb,hl,hno,h3⟩
     ·cases h3
    ·cases h3
   ·cases h3
  obtain⟨b,l,hb,hl,hno,him⟩:=key p op y0 hy0;have hp2:p.2=true:=(alI him).1;obtain⟨cs,e,hh,bH,hrel⟩:=h.bx b l hl;have OM:∀g j,dq (G.hb b) g=some j->(G.own g).isSome=true:=by
   intro g j hg;unfold dq at hg;split at hg
   ·rename_i he;rw[he,bH];rfl
   ·cases hg
  obtain⟨ok,aNV,aJ4,hfz⟩:∃ok:Nat->Prop,(∀g,ok g->dq (G.hb b) g=none)/\(con.m=1\/con.m=2\/∀g,ok g->RO G false g)/\∀t c v xs,c∈ik st con.pm con.i args->bN G w st.bx st.bl c v->de st t c=some xs->∀e,Rd w ok (.sl e t) xs [v]:=by
   rcases hfz with ⟨_,h1⟩|h1
   ·refine⟨fun g=>∀d,G.own g≠some (.bx d),fun g hg=>qR fun he=>hg b (by rw[he,bH]),h1.elim .inl fun h=>.inr (.inl h),fun t c v xs _ hr hd=>kD h hr hd (fun id len bk _ hlk=>⟨fun g hg d hd=>?_,fun hw g hg d hd=>?_⟩) fun f e u ys _ g hg d hd=>?_⟩
    ·rw[hg.1]at hd;cases hd
    ·obtain⟨_,_,h2,_⟩:=(h.bl id bk hlk).wr hw;rw[h2 g hg]at hd;cases hd
    ·rw[hg.1]at hd;cases hd
   ·refine⟨RO G false,fun g hg=>qR fun he=>?_,.inr (.inr fun g hg=>hg),h1⟩;have:=hg.1;rw[he,bH]at this;cases this
  obtain⟨o',p',e1,_,_,hin⟩:=Bs (ok:=ok) (nw:=nwC G (cV l) b) (own0:=dq (G.hb b)) (g0:=G.hb b) h con.i con.ps args x hfz hx (fun p' op' y h1' h2 h3 h4=>by
   have:op'=op:=by rw[ho1]at h1';exact(fQ h1').symm
   subst this;obtain⟨b',l',Cq,hl',_,aKa⟩:=key p' op' y h3;rw[hb]at Cq;cases Cq;rw[hl]at hl';cases hl';rw[Sg];have hv:a.eval op'=.pointer (some ⟨G.hb b,0,none⟩):=by have:=h.eP op';rw[hb]at this;exact this.2
   refine⟨hv,by simp[dq],cs,e,hh,?_⟩;have hcells:∀t c v xs,c∈l->bN G w st.bx st.bl c v->de st t c=some xs->∀e,Rd w (fun g=>dq (G.hb b) g=none/\nwC G (cV l) b g) (.sl e t) xs [v]:=by
    intro t c v xs hm hr hd;refine kD h hr hd (fun id len bk hc _=>?_) fun f e u ys hc g hg=>?_
    ·subst hc;exact absurd hm (afE hno id len)
    ·subst hc;refine⟨qR fun he=>?_,?_⟩
     ·have:=hg.1;rw[he,bH]at this;cases this
     ·cases UF:cV l with
      |true =>
       have:=OJ UF f e u ys hm;subst this;exact .inl ⟨hg.2.elim (fun h=>h) fun h=>(by cases h.1),.inl hg.1⟩
      |false=>exact .inr ⟨rfl,hg.1,hg.2.imp_right fun h=>⟨rfl,h.2⟩⟩
   obtain⟨vs1,vs2,e2,kt,hr2,_⟩:=OI hcells hrel (alI aKa).2;have:vs2=[]:=YK hr2.len.symm;subst this;rw[ie]at e2;rw[e2];exact kt)
  have:o'=op:=by rw[ho1]at e1;exact(fQ e1).symm
  subst this;have hd0:=ON h (own0:=dq (G.hb b)) OM;refine Calls.mono (fw.2.2 x y hg w h.below ok (nwC G (cV l) b) (dq (G.hb b)) (G.hb b) _ _ ⟨fun g hg=>.inl (hd0.mq g hg),fun g j hj=>⟨.inl (hd0.bH g j hj).1,(hd0.bH g j hj).2⟩,aNV⟩ hin) fun e w' he=>?_
  obtain⟨us,rfl,db,hB⟩:=he;rw[hb]at hr;exact⟨_,rfl,aFG h Sg aJ4 hl hp1 hp2 hqs db hB hr hK,fun op2 g0 _ ho2 hv k hk hne=>hB.block k hk (by
   have:op2=o':=by rw[ho1]at ho2;exact(fQ ho2).symm
   subst this;have hp:=h.eP op2;rw[hb]at hp;have hp:a.eval op2=.pointer (some ⟨G.hb b,0,none⟩):=hp.2;rw[hv]at hp;injection hp with hp
   injection hp with hp
   injection hp with hp
   rw[qR (fun e=>hne (by rw[e,hp]))];simp)⟩
 |box =>
  have hfz:=hfz.resolve_left fun h=>by rw[Sg]at h;cases h.1
  rw[Sg]at hr;dsimp only at hr;have key:∀p op y,im2 st con.pm p op=some y->∃b l,st.eP op=.c (.ptr b 0)/\look st.bx b=some l/\imV st p (.agg l)=some y:=by
   intro p op y h3;rw[Sg]at h3;simp only[im2]at h3;split at h3
   ·rename_i b hb;split at h3
    ·rename_i l hl;exact⟨b,l,hb,hl,h3⟩
    ·cases h3
   ·cases h3
  obtain⟨b,l,hb,hl,him⟩:=key p op y0 hy0;have hp2:p.2=true:=(alI him).1;have OM:∀g j,dq (G.hb b) g=some j->(G.own g).isSome=true:=by
   intro g j hg;obtain⟨_,_,_,bH,_⟩:=h.bx b l hl;unfold dq at hg;split at hg
   ·rename_i he;rw[he,bH];rfl
   ·cases hg
  obtain⟨o',p',e1,_,_,hin⟩:=Bs (ok:=RO G false) (nw:=fun g=>G.nw g/\(G.own g=none\/(dq (G.hb b) g).isSome=true)) (own0:=dq (G.hb b)) (g0:=G.hb b) h con.i con.ps args x hfz hx (fun p' op' y h1' h2 h3 h4=>by
   have:op'=op:=by rw[ho1]at h1';exact(fQ h1').symm
   subst this;obtain⟨b',l',Cq,hl',aKa⟩:=key p' op' y h3;rw[hb]at Cq;cases Cq;rw[hl]at hl';cases hl';rw[Sg];obtain⟨cs,e,hh,bH,hrel⟩:=h.bx b l hl;have hv:a.eval op'=.pointer (some ⟨G.hb b,0,none⟩):=by have:=h.eP op';rw[hb]at this;exact this.2
   refine⟨hv,by simp[dq],cs,e,hh,?_⟩;have hcells:∀t c v xs,c∈l->bN G w st.bx st.bl c v->de st t c=some xs->∀e,Rd w (RO G false) (.sl e t) xs [v]:=by
    have aNW:∀(i:Nat) (os:List Operand),nX os i=some op'->∀c∈l,c∈ik st .box i os:=by
     intro i
     induction i with
     |zero =>
      intro os hos c hc;cases os with
      |nil=>cases hos
      |cons o os =>
       cases hos;simp[ik,hb,hl,hc]
     |succ i ih =>
      intro os hos c hc;cases os with
      |nil=>cases hos
      |cons o os=>simp[ik,ih os hos c hc]
    exact fun t c v xs hm=>hfz t c v xs (by rw[Sg];exact aNW con.i args h1' c hm)
   obtain⟨vs1,vs2,e2,kt,hr2,_⟩:=OI hcells hrel (alI aKa).2;have:vs2=[]:=YK hr2.len.symm;subst this;rw[ie]at e2;rw[e2];exact kt)
  have:o'=op:=by rw[ho1]at e1;exact(fQ e1).symm
  subst this;refine Calls.mono (fw.2.2 x y hg w h.below _ _ _ _ _ _ (ON h OM) hin) fun e w' he=>?_
  obtain⟨us,rfl,db,hB⟩:=he;rw[hb]at hr;exact⟨_,rfl,aFF h Sg (fun g hg=>hg) hl hp1 hp2 hqs db hB hr hK,fun op2 g0 _ ho2 hv k hk hne=>hB.block k hk (by
   have:op2=o':=by rw[ho1]at ho2;exact(fQ ho2).symm
   subst this;have hp:=h.eP op2;rw[hb]at hp;have hp:a.eval op2=.pointer (some ⟨G.hb b,0,none⟩):=hp.2;rw[hv]at hp;injection hp with hp
   injection hp with hp
   injection hp with hp
   rw[qR (fun e=>hne (by rw[e,hp]))];simp)⟩
theorem aH3 {con:OE}{args:List Operand}(h:¬(con.pm=.cur/\(con.m=1\/con.m=2))):aHI st con args=ik st con.pm con.i args:=by
 unfold aHI;split
 ·rename_i hp;rw[hp]at h ⊢;split
  ·exact absurd ⟨rfl,.inl (by assumption)⟩ h
  ·exact absurd ⟨rfl,.inr (by assumption)⟩ h
  ·rfl
 ·rfl
theorem acN {f:FuncId}{con:OE}(fw:aaP P w0 f con)(h:Inv w0 G st a w){args:Array Operand}{ts:Array TypeId}(ho:o.op=.call {callee:=.value (.func f),args:=args,argTypes:=ts})
  (hr:acq con st o.dst args.toList k=some r) (hK:rW w0 k r K):o.wp P a w (fun a' w'=>K a' w'/\∀(op:Operand) (g0:Nat),(con.pm=.box\/con.pm=.cur)->nX args.toList con.i=some op->a.eval op=.pointer (some ⟨g0,0,none⟩)->∀k,k<w.heap.size->k≠g0->w'.heap[k]?=w.heap[k]?) Q:=by
 unfold Oper.wp;rw[Jh fw.1 ho];unfold acq at hr;dsimp only at hr;obtain⟨G1,h1,hx1,hs1,hsd⟩:=h.freeze (aHI st con args.toList);split at hr
 ·rename_i x hx;cases hg:con.g x with
  |none=>rw[hg]at hr;cases hr
  |some y =>
   rw[hg]at hr;simp only[al7]at hr;have hargs:(args.map a.eval)=(args.toList.map a.eval).toArray:=by rw[<-acj,xW]
   show Calls P f _ w _;rw[hargs];cases hd:o.dst with
   |none=>rw[hd]at hr;cases hr
   |some d =>
    rw[hd]at hr;dsimp only at hr;refine Calls.mono (azY fw h1 hg hx (by
     by_cases hcu:con.pm=.cur/\(con.m=1\/con.m=2)
     ·exact .inl hcu
     ·refine .inr fun t c v xs hm=>aaQ h1 (nf:=false) (fun hn=>by cases hn) (fun hn=>by cases hn) t c v xs ?_
      rw[UO hsd]at hm;rw[aH3 hcu];exact hm) hr hK) fun e w' he=>?_
    obtain⟨v,rfl,hk,hx⟩:=he;exact⟨hk,hx⟩
 ·cases hr
theorem awU {f:FuncId}{con:OE}(fw:aaP P w0 f con)(h:Inv w0 G st a w){args:Array Operand}{ts:Array TypeId}(ho:o.op=.call {callee:=.value (.func f),args:=args,argTypes:=ts})
  (hr:acq con st o.dst args.toList k=some r) (hK:rW w0 k r K):o.wp P a w K Q:=by
 exact Oper.wp_mono (fun _ _ h=>h.1) (acN fw h ho hr hK)
theorem azZ:∀{t:Ty} {x:t.D},ama t x=true->aLi t x=x
 |.bool,x,h=>Eq.symm h
 |.int _,x,h=>(bC.1 h).symm
 |.str,_,h|.unit,_,h|.pair _ _,_,h|.sl _ _,_,h=>by cases h
theorem az0:∀{t:Ty} {x:t.D},ama t x=false->aLj t x=x
 |.bool,x,h=>Eq.symm h
 |.int _,x,_=>rfl
 |.str,_,_|.unit,_,_|.pair _ _,_,_|.sl _ _,_,_=>rfl
theorem awV {bx:List (Nat×List AC)}{bl:List (Nat×Option gp)}:∀{n:Nat} {vs:List Value},vs.length=n->(∀c∈vs,c.oneCell'=true)->cT (bN G w bx bl) (List.replicate n .any) vs
 |0,[],_,_=>trivial
 |n+1,v::vs,h,ho=>by rw[List.replicate_succ];exact⟨ho v (by simp),awV (by simpa using h) fun c hc=>ho c (by simp[hc])⟩
 |0,_::_,h,_=>by simp at h
 |_+1,[],h,_=>by simp at h
theorem awW {f:FuncId}{con:Sel}(fw:at7 P w0 f con)(h:Inv w0 G st a w){args:Array Operand}{ts:Array TypeId}(ho:o.op=.call {callee:=.value (.func f),args:=args,argTypes:=ts})
  (hr:atK con st o.dst args.toList k=some r) (hK:rW w0 k r K):o.wp P a w K Q:=by
 unfold Oper.wp;rw[Jh fw.1 ho];unfold atK at hr;dsimp only at hr;obtain⟨G1,h1,hx1,hs1,hsd⟩:=h.freeze (ik st (.own true) con.i args.toList);have hfz:∀t c v xs,c∈ik (st.freeze (ik st (.own true) con.i args.toList)) (.own true) con.i args.toList->bN G1 w (st.freeze (ik st (.own true) con.i args.toList)).bx (st.freeze (ik st (.own true) con.i args.toList)).bl c v->de (st.freeze (ik st (.own true) con.i args.toList)) t c=some xs->∀e,Rd w (RO G1 false) (.sl e t) xs [v] :=
  fun t c v xs hm=>aaQ h1 (nf:=false) (fun hn=>by cases hn) (fun hn=>by cases hn) t c v xs (by rw[UO hsd]at hm;exact hm)
 generalize st.freeze (ik st (.own true) con.i args.toList)=ub at hr h1 hfz;clear hx1 hs1 hsd h;split at hr
 ·rename_i x hx;cases hg:con.g x with
  |none=>rw[hg]at hr;cases hr
  |some y =>
   rw[hg]at hr;simp only[al7]at hr;have hargs:(args.map a.eval)=(args.toList.map a.eval).toArray:=by rw[<-acj,xW]
   show Calls P f _ w _;rw[hargs];cases hd:o.dst with
   |none=>rw[hd]at hr;cases hr
   |some d =>
    rw[hd]at hr;dsimp only at hr;obtain⟨op,p,y0,ho1,hp1,hy0⟩:=aaS con.i con.ps args.toList x hx;rw[aB5 ho1]at hr;have key:∀p op y,im2 ub (.own true) p op=some y->ij ub (pmM true) [] (ub.eP op).cells=true/\x4 ub [p] [ub.eP op]=true/\im1 ub p op=some y:=by
     intro p op y h3;simp only[im2]at h3;split at h3
     ·rename_i hc;rw[aJ]at hc;exact⟨hc.1,hc.2,h3⟩
     ·cases h3
    obtain⟨o',p',e1,_,_,hin⟩:=Bs (ok:=RO G1 false) (nw:=fun g=>G1.nw g/\(G1.own g=none\/(cS G1 (aU [ub.eP op]) g).isSome=true)) (own0:=cS G1 (aU [ub.eP op])) (g0:=0) h1 con.i con.ps args.toList x hfz hx (fun p' op' y h1' h2 h3 h4=>by
     obtain⟨k1,k2,k3⟩:=key p' op' y h3;have:op'=op:=by rw[ho1]at h1';exact(fQ h1').symm
     subst this;have hE:∀g,RO G1 (m2 (pmM true)) g->cS G1 (aU [ub.eP op']) g=none/\((G1.nw g/\(G1.own g=none\/(cS G1 (aU [ub.eP op']) g).isSome=true))\/(true=false/\RO G1 false g)):=by
      intro g hg;refine⟨by simp[cS,hg.1],?_⟩;rcases hg.2 with h5|h5
      ·exact .inl ⟨h5,.inl hg.1⟩
      ·cases h5.1
     obtain⟨db,_⟩:=Hb (m:=pmM true) (by simp[pmM]) hE h1 (aU [ub.eP op']) [] [p'] [ub.eP op'] [a.eval op'] (y,()) (pre:=[]) (seen:=[]) ⟨h1.eP op',trivial⟩ (by simp) (fun id len hm=>by simp at hm) (by rw[ie,Lx];exact k1) k2 (by have:imV ub p' (ub.eP op')=some y:=k3;simp[Bn,this])
     obtain⟨v,vs',he,hv,_⟩:=db;cases he;exact hv)
    obtain⟨k1,k2,k3⟩:=key p op y0 hy0;have:o'=op:=by rw[ho1]at e1;exact(fQ e1).symm
    subst this;have hpq:p=con.q:=by have:=fw.2.1;rw[hp1]at this;exact fQ this
    subst hpq;refine Calls.mono (fw.2.2 x y hg w h1.below _ _ _ 0 _ _ (ON h1 (own0:=cS G1 (aU [ub.eP o'])) fun g j hj=>Xw hj) hin) fun e w' he=>?_
    obtain⟨us,rfl,⟨va,vb,rfl,db⟩,hB⟩:=he;show K (a.put (some d) (fS [va,vb])) w';cases hdn:ama con.b.1 y.2.1 with
    |true =>
     rw[hdn]at hr db;rw[azZ hdn]at hr;exact aso (con:=aJ3 con) (f:=true) h1 rfl (fun g hg=>hg) (h1.eP o') hp1 (.inl rfl) k3 k1 db hB hr hK
    |false =>
     rw[hdn]at hr db;rw[az0 hdn]at hr;obtain⟨hc,hr⟩:=aY (show ck _ _=some r from hr);simp only[aJ]at hc;obtain⟨⟨hd1,UF⟩,hfn⟩:=hc;obtain⟨⟨b8,mq,UR,db⟩,aue⟩:=db;obtain⟨G',hinv,hrel⟩:=awS (q:=con.q) (y2:=y.2.2) (m:=2) (rs:=[con.b]) (y:=(y.2.1,())) (us:=[vb]) h1 (fun g hg=>hg) (h1.eP o') k3 k1 mq UR db hB UF hfn;refine hK _ _ _ _ (hinv.put d (il hd1) (v:=.Ul (aE2 con.a::(l7 d true [con.b] (y.2.1,()) 0).1)) (u:=fS [va,vb]) ⟨#[va,vb],rfl,?_,hrel⟩) hr;unfold aE2;split
     ·rename_i ha;obtain⟨vs,rfl,hl,aaH⟩:=aue ha;exact⟨vs,rfl,awV hl aaH⟩
     ·exact trivial
 ·cases hr
end
end Go.Am
