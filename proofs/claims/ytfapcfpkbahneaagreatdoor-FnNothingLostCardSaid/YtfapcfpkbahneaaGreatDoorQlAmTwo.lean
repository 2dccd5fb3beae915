/- Lemmas for the claim. No condition. -/
import Derived.Test.YtfapcfpkbahneaaGreatDoorQlAmCall
set_option linter.all false
namespace Go.Am
open Go.RowKit
section
variable {P:Program} {w0:fK} {w:World} {G:Gh} {st:St} {a:Act} {α:Type} {k:St→Option α} {r:α} {K:Act→World→Prop} {Q:Exit→Act→World→Prop} {o:Oper}
theorem I0 {f:FuncId}(hf:XE P f){args:Array Operand}{ts:Array TypeId}(ho:o.op=.call {callee:=.value (.func f),args:=args,argTypes:=ts}) :
  (execOp a.eval o).run P w=.ok (.enter f (args.map a.eval)) w:=by
 obtain⟨fn,h1,h2,h3⟩:=hf
 unfold execOp
 rw[ho]
 have hn : ¬ fn.name = "runtime.NumGoroutine" := by simpa using h2
 have hb:¬fn.body=none:=by intro e;rw[e]at h3;cases h3
 simp[resolve,Act.eval,Deferred.ofValue,invoke,callFunc,h1,hn,hb]
theorem E3:∀(l:List AC) (st:St),iu st (st.freeze l)
 |[],st=>.refl st
 |c::l,st=>(rU st c).trans (E3 l (st.ey c))
theorem aaf {G':Gh}{l:List AC}(h':Inv w0 G' (st.freeze l) a w){nf:Bool}(ho:nf=true→pQ st l=true)(hn:nf=true→cW l=true) :
  ∀t c v xs,c∈l→bN G' w (st.freeze l).bx (st.freeze l).bl c v→df (st.freeze l) t c=some xs→∀e,Rd w (RO G' nf) (.sl e t) xs [v]:=by
 intro t c v xs hm hr hd e
 refine kt h' hr hd (fun id len b hc hl=>?_) (fun f e u ys hc=>?_) e
 ·subst hc
  have hw:b.w=false:=by
   rcases(E3 l st).bl id with h1|⟨b0,h1,h2⟩
   ·have:=IW l st id len b hm (h1.symm.trans hl)
    rw[hl]at this
    have:=fR (fR this)
    rw[this]
   ·rw[hl]at h2
    have:=fR (fR h2)
    rw[this]
  refine⟨fun g hg=>hg.DQ fun hnf=>?_,fun hw'=>by rw[hw]at hw';cases hw'⟩
  obtain⟨b0,hb0,hf⟩:=alU (ho hnf) id len hm
  have:=IW l st id len b0 hm (fm hb0)
  rw[hl]at this
  cases this
  exact hf
 ·subst hc
  exact fun g hg=>hg.DQ fun hnf=>N9 (hn hnf) f e u ys hm
theorem aca {dL:St}(h:dL.tm=st.tm)(x:Operand):dL.eT x=st.eT x:=by
 have:dL.ev x=st.ev x:=by
  cases x with
  |tmp t =>
   show dL.get t=st.get t
   unfold St.get
   rw[h]
  |_=>rfl
 unfold St.eT
 rw[this]
theorem aFf {dL:St}(h:iu st dL)(p:Ty×Bool)(o:Operand):im1 dL p o=im1 st p o:=by
 unfold im1 imV
 rw[aca h.tm]
 split
 ·rw[uJ h]
 ·rw[uJ h]
 ·rfl
theorem ahx {dL:St}(h:iu st dL):∀(ps:List (Ty×Bool)) (os:List Operand),Nr dL ps os=Nr st ps os
 |[],[]=>rfl
 |[],_::_=>rfl
 |_::_,[]=>rfl
 |p::ps,o::os=>by
  simp only[Nr]
  rw[aFf h]
  split
  ·rw[ahx h ps os]
  ·rfl
theorem Nw {dL:St}(h:iu st dL):∀(os:List Operand),kK dL os=kK st os
 |[]=>rfl
 |o::os=>by
  simp only[kK]
  rw[aca h.tm,Nw h os]
def aFg (G:Gh)(bx:List (Nat×List AC))(bl:List (Nat×Option gq))(g:Nat):Key→Prop
 |.bx d=>(look bx d).isSome=true∧g=G.hb d
 |.bl id=>(look bl id).isSome=true∧(G.hv id).ownBlock=some g
 |.hid=>False
theorem Inv.aNK (h:Inv w0 G st a w){w':World}{fr:Nat→Prop}(hK:fE fr w w')(hfr:∀g,fr g→(G.own g).isSome=true)(aNL:∀g,fr g→G.own g≠some .hid)
  {G2:Gh} {bx2:List (Nat×List AC)} {bl2:List (Nat×Option gq)} (hnw:G2.nw=G.nw) (dS:G2.ok=G.ok) (hold:∀g,g<w.heap.size→¬fr g→G2.own g=G.own g)
  (hs:kM G st.bx st.bl G2 bx2 bl2)
  (hbx:WS G w G2 w'→∀d l,look bx2 d=some l→(look st.bx d=some l∧G2.hb d=G.hb d∧¬fr (G.hb d))∨(∃cs e,w'.heap[G2.hb d]?=some (.cells cs e (0,0))∧G2.own (G2.hb d)=some (.bx d)∧cR (bN G2 w' bx2 bl2) l cs.toList))
  (hbl:∀id b,look bl2 id=some (some b)→(look st.bl id=some (some b)∧G2.hv id=G.hv id∧∀g,G.own g=some (.bl id)→¬fr g)∨DR G2 w' id b)
  (bG:∀g k,G2.own g=some k→(w.heap.size≤g∨fr g)→g<w'.heap.size∧aFg G2 bx2 bl2 g k) :
  Inv w0 G2 {st with bx:=bx2,bl:=bl2} a w'∧WS G w G2 w':=by
 have hx:WS G w G2 w':=by
  refine⟨hnw,dS,hK.size,fun b hb ho=>?_,fun b hb ho=>?_⟩
  ·have hne:¬fr b:=fun hf=>by
    have:=hfr b hf
    rw[ho]at this
    cases this
   exact⟨(hold b hb hne).trans ho,hK.block b hb hne⟩
  ·have hne:¬fr b:=fun hf=>aNL b hf ho
   exact⟨(hold b hb hne).trans ho,hK.block b hb hne⟩
 refine⟨⟨hnw.trans h.nw,dS.trans h.rok,?_,h.defers,h.size,h.sp.mono hx hs,h.E0 hx,fun t v hv=>(h.tm t v hv).mono hx hs,?_,?_,?_⟩,hx⟩
 ·refine h.below.step hK.os hK.tape hK.output hK.size fun k hk hf=>hK.block k (DM hk h.below.size) fun hfk=>?_
  obtain⟨key,aJR⟩:=mg.1 (hfr k hfk)
  rcases(h.own k key aJR).1 with h1|h1
  ·omega
  ·exact hf h1
 ·intro d l hd
  rcases hbx hx d l hd with ⟨h1,h2,h3⟩|h1
  ·obtain⟨cs,e,h4,h5,h6⟩:=h.bx d l h1
   have hlt:=(h.own _ _ h5).2.1
   refine⟨cs,e,?_,?_,h6.imp fun _ _=>bN.mono hx hs⟩
   ·rw[h2,hK.block _ hlt h3]
    exact h4
   ·rw[h2,hold _ hlt h3]
    exact h5
  ·exact h1
 ·intro id b hb
  rcases hbl id b hb with ⟨h1,h2,h3⟩|h1
  ·refine(h.bl id b h1).mono hx h2 fun hw g hg ho=>?_
   have hlt:=(h.own _ _ ho).2.1
   exact⟨(hold g hlt (h3 g ho)).trans ho,hK.block g hlt (h3 g ho)⟩
  ·exact h1
 ·intro g k hk
  by_cases hn:w.heap.size≤g∨fr g
  ·obtain⟨h1,h2⟩:=bG g k hk hn
   refine⟨?_,h1,by cases k with|bx d=>exact h2|bl id=>exact h2|hid=>exact h2.elim⟩
   rcases hn with hn|hn
   ·exact .inl (cT h.below.size hn)
   ·obtain⟨key,aJR⟩:=mg.1 (hfr g hn)
    exact(h.own g key aJR).1
  ·have hlt:g<w.heap.size:=by
    by_cases hl:g<w.heap.size
    ·exact hl
    ·exact absurd (.inl (by omega)) hn
   have hnf:¬fr g:=fun hf=>hn (.inr hf)
   rw[hold g hlt hnf]at hk
   obtain⟨h1,h2,h3⟩:=h.own g k hk
   refine⟨h1,DM h2 hK.size,?_⟩
   cases k with
   |hid=>trivial
   |bx d=>exact⟨(hs.bx d h3.1).1,by rw[(hs.bx d h3.1).2];exact h3.2⟩
   |bl id=>exact⟨(hs.bl id h3.1).1,by rw[(hs.bl id h3.1).2.1];exact h3.2⟩
def Nx (L:List (Nat×gq×Value))(g:Nat):Option Key:=(L.find? fun z=>z.2.2.ownBlock==some g).map fun z=>.bl z.1
def Cj (L:List (Nat×gq×Value))(B:Option (Nat×Nat×List AC))(g:Nat):Option Key:=match B with
 |some (d,g0,_)=>if g=g0 then some (.bx d) else Nx L g
 |none=>Nx L g
def Gh.back (G:Gh)(size:Nat)(own0 cc:Nat→Option Nat)(L:List (Nat×gq×Value))(B:Option (Nat×Nat×List AC)):Gh :=
 {nw:=G.nw,ok:=G.ok,
  hb:=fun x=>match B with|some (d,g0,_)=>if x=d then g0 else G.hb x|none=>G.hb x,
  hv:=fun i=>match L.find? (·.1==i) with|some z=>z.2.2|none=>G.hv i,
  own:=fun g=>if g<size∧own0 g=none then G.own g else match cc g with|none=>none|some _=>Cj L B g}
structure al1 (w w':World) (G:Gh) (st:St) (own0 cc:Nat→Option Nat) (okE:Bool→Nat→Prop) (L:List (Nat×gq×Value)) (B:Option (Nat×Nat×List AC))
  (bx2:List (Nat×List AC)) (bl2:List (Nat×Option gq)):Prop where
 keeps:fE (fun g=>(own0 g).isSome=true) w w'
 pass:∀g j,own0 g=some j→(G.own g).isSome=true
 aLJ:∀g j,own0 g=some j→G.own g≠some .hid
 new:∀g j,cc g=some j→w.heap.size≤g∨(own0 g).isSome=true
 els:∀f g,okE f g→RO (G.back w.heap.size own0 cc L B) f g
 row:∀z∈L,z.2.1.w=true∧0<z.2.1.t.n∧(∃rows,w'.ownsRow 0 z.2.1.e z.2.1.t.n z.2.2 z.2.1.xs.length rows∧fM w' (okE z.2.1.f) z.2.1.t rows z.2.1.xs)∧∀g,z.2.2.ownBlock=some g→(cc g).isSome=true
 inj:∀z∈L,∀z'∈L,∀g,z.2.2.ownBlock=some g→z'.2.2.ownBlock=some g→z=z'
 uniq:∀z∈L,∀z'∈L,z.1=z'.1→z=z'
 name:∀z∈L,look st.bl z.1=none∨(z.2.2=G.hv z.1∧∃b,look st.bl z.1=some (some b)∧b.t=z.2.1.t)
 bl:∀i b,look bl2 i=some (some b)→(∃v,(i,b,v)∈L)∨((∀z∈L,z.1≠i)∧look st.bl i=some (some b)∧∀g,G.own g=some (.bl i)→own0 g=none)
 bls:∀i,(look st.bl i).isSome=true→(look bl2 i).isSome=true
 blL:∀z∈L,(look bl2 z.1).isSome=true
 bx:∀d l,look bx2 d=some l→(∃g0,B=some (d,g0,l))∨((∀d' g l',B=some (d',g,l')→d'≠d)∧look st.bx d=some l∧own0 (G.hb d)=none)
 bxs:∀d,(look st.bx d).isSome=true→(look bx2 d).isSome=true
 bxB:∀d g l,B=some (d,g,l)→(look bx2 d).isSome=true∧(look st.bx d=none∨G.hb d=g)∧((cc g).isSome=true∧∀z∈L,z.2.2.ownBlock≠some g) ∧
  ∃cs e f t x,w'.heap[g]?=some (.cells cs e (0,0))∧l=ex f t x∧Rd w' (okE f) t x cs.toList
theorem al1.find {w w':World}{G:Gh}{st:St}{own0 cc:Nat→Option Nat}{okE:Bool→Nat→Prop}{L:List (Nat×gq×Value)}{B:Option (Nat×Nat×List AC)}
  {bx2:List (Nat×List AC)} {bl2:List (Nat×Option gq)} (h:al1 w w' G st own0 cc okE L B bx2 bl2) {z:Nat×gq×Value} (hz:z∈L) {g:Nat} (hg:z.2.2.ownBlock=some g) :
  (G.back w.heap.size own0 cc L B).own g=some (.bl z.1):=by
 obtain⟨j0,ho⟩:=mg.1 ((h.row z hz).2.2.2 g hg)
 have gI:Nx L g=some (.bl z.1):=by
  unfold Nx
  cases hf:L.find? fun z=>z.2.2.ownBlock==some g with
  |none =>
   have:=alu.1 hf z hz
   simp[hg]at this
  |some y =>
   have h1:=ahj hf
   have h2:=X7 hf
   have:=h.inj z hz y h2 g hg (by simpa using h1)
   rw[←this]
   rfl
 have hne:¬(g<w.heap.size∧own0 g=none):=by
  rintro⟨h1,h2⟩
  rcases h.new g _ ho with h3|h3
  ·omega
  ·rw[h2]at h3;cases h3
 unfold Gh.back
 dsimp only
 rw[ah hne,ho]
 dsimp only
 unfold Cj
 split
 ·rename_i d g0 l
  split
  ·rename_i he
   subst he
   obtain⟨_,_,⟨h4,h5⟩,_⟩:=h.bxB d g l rfl
   exact absurd hg (h5 z hz)
  ·exact gI
 ·exact gI
theorem Inv.back (h:Inv w0 G st a w){w':World}{own0 cc:Nat→Option Nat}{okE:Bool→Nat→Prop}{L:List (Nat×gq×Value)}{B:Option (Nat×Nat×List AC)}
  {bx2:List (Nat×List AC)} {bl2:List (Nat×Option gq)} (hB:al1 w w' G st own0 cc okE L B bx2 bl2) :
  Inv w0 (G.back w.heap.size own0 cc L B) {st with bx:=bx2,bl:=bl2} a w'∧∀c v,tP L c v→bN (G.back w.heap.size own0 cc L B) w' bx2 bl2 c v:=by
 have hvL:∀z∈L,(G.back w.heap.size own0 cc L B).hv z.1=z.2.2:=by
  intro z hz
  show(match L.find? (·.1==z.1) with|some z=>z.2.2|none=>G.hv z.1)=_
  cases hf:L.find? (·.1==z.1) with
  |none =>
   have:=alu.1 hf z hz
   simp at this
  |some y =>
   have h1:=ahj hf
   have h2:=X7 hf
   rw[hB.uniq y h2 z hz (by simpa using h1)]
 have hvN:∀i,(∀z∈L,z.1≠i)→(G.back w.heap.size own0 cc L B).hv i=G.hv i:=by
  intro i hi
  show(match L.find? (·.1==i) with|some z=>z.2.2|none=>G.hv i)=_
  cases hf:L.find? (·.1==i) with
  |none=>rfl
  |some y =>
   have h1:=ahj hf
   exact absurd (by simpa using h1) (hi y (X7 hf))
 have hbN:∀d,(∀d' g l,B=some (d',g,l)→d'≠d)→(G.back w.heap.size own0 cc L B).hb d=G.hb d:=by
  intro d hd
  show(match B with|some (d',g0,_)=>if d=d' then g0 else G.hb d|none=>G.hb d)=_
  cases B with
  |none=>rfl
  |some q =>
   obtain⟨d',g,l⟩:=q
   have:=hd d' g l rfl
   show(if d=d' then g else G.hb d)=_
   rw[ah fun e=>this e.symm]
 have hbB:∀d g l,B=some (d,g,l)→(G.back w.heap.size own0 cc L B).hb d=g:=by
  intro d g l he
  subst he
  simp[Gh.back]
 have hs:kM G st.bx st.bl (G.back w.heap.size own0 cc L B) bx2 bl2:=by
  refine⟨fun d hd=>⟨hB.bxs d hd,?_⟩,fun i hi=>⟨hB.bls i hi,?_,fun b' Cf=>?_⟩⟩
  ·by_cases hq:∃g l,B=some (d,g,l)
   ·obtain⟨g,l,hq⟩:=hq
    rw[hbB d g l hq]
    rcases(hB.bxB d g l hq).2.1 with h1|h1
    ·rw[h1]at hd;cases hd
    ·exact h1.symm
   ·exact hbN d fun d' g l he hdd=>hq ⟨g,l,by rw[he,hdd]⟩
  ·by_cases hq:∃z∈L,z.1=i
   ·obtain⟨z,hz,rfl⟩:=hq
    rw[hvL z hz]
    rcases hB.name z hz with h1|⟨h1,_⟩
    ·rw[h1]at hi;cases hi
    ·exact h1
   ·exact hvN i fun z hz hzi=>hq ⟨z,hz,hzi⟩
  ·rcases hB.bl i b' Cf with ⟨v,hv⟩|⟨_,h1,_⟩
   ·rcases hB.name _ hv with h1|⟨_,b,h2,h3⟩
    ·rw[h1]at hi;cases hi
    ·exact⟨b,h2,h3⟩
   ·exact⟨b',h1,rfl⟩
 have aLK:=h.aNK (G2:=G.back w.heap.size own0 cc L B) (bx2:=bx2) (bl2:=bl2) hB.keeps (fun g hg=>by
   obtain⟨j,hj⟩:=mg.1 hg
   exact hB.pass g j hj) (fun g hg=>by
   obtain⟨j,hj⟩:=mg.1 hg
   exact hB.aLJ g j hj) rfl rfl (fun g hg hf=>by
   have:own0 g=none:=by
    cases ho:own0 g with
    |none=>rfl
    |some j=>rw[ho]at hf;exact absurd rfl hf
   simp[Gh.back,hg,this]) hs (fun hx d l hd=>by
   rcases hB.bx d l hd with ⟨g0,hg⟩|⟨h1,h2,h3⟩
   ·refine .inr ?_
    obtain⟨_,_,⟨h40,h5⟩,cs,e,f,t,x,h6,rfl,h8⟩:=hB.bxB d g0 l hg
    obtain⟨j,h4⟩:=mg.1 h40
    refine⟨cs,e,by rw[hbB d g0 _ hg];exact h6,?_,T4 (jo (fun g hg=>hB.els f g hg) h8)⟩
    rw[hbB d g0 _ hg]
    have hne:¬(g0<w.heap.size∧own0 g0=none):=by
     rintro⟨h9,Qr⟩
     rcases hB.new g0 j h4 with h3|h3
     ·omega
     ·rw[Qr]at h3;cases h3
    subst hg
    unfold Gh.back
    dsimp only
    rw[ah hne,h4]
    simp[Cj]
   ·exact .inl ⟨h2,hbN d h1,by rw[h3];simp⟩) (fun i b hb=>by
   rcases hB.bl i b hb with ⟨v,hv⟩|⟨h1,h2,h3⟩
   ·refine .inr ?_
    obtain⟨hw,hp,⟨rows,h4,h5⟩,h6⟩:=hB.row _ hv
    have hhv:=hvL _ hv
    refine⟨fun _=>⟨rows,?_,?_,?_⟩,fun hw'=>?_,hp⟩
    ·rw[hhv];exact h4
    ·rw[hhv]
     exact fun g hg=>hB.find hv hg
    ·exact ml (fun g hg=>hB.els _ g hg) h5
    ·rw[show b.w=true from hw]at hw'
     cases hw'
   ·exact .inl ⟨h2,hvN i h1,fun g hg=>by rw[h3 g hg];simp⟩) (fun g key hk hn=>by
   have hne:¬(g<w.heap.size∧own0 g=none):=by
    rintro⟨h1,h2⟩
    rcases hn with h3|h3
    ·omega
    ·rw[h2]at h3;cases h3
   have hk0:=hk
   unfold Gh.back at hk
   dsimp only at hk
   rw[ah hne]at hk
   cases ho:cc g with
   |none=>rw[ho]at hk;cases hk
   |some j =>
    rw[ho]at hk
    dsimp only at hk
    have aBE:Nx L g=some key→g<w'.heap.size∧aFg (G.back w.heap.size own0 cc L B) bx2 bl2 g key:=by
     intro hr
     unfold Nx at hr
     cases hf:L.find? fun z=>z.2.2.ownBlock==some g with
     |none=>rw[hf]at hr;cases hr
     |some y =>
      rw[hf]at hr
      cases hr
      have h1:=ahj hf
      have h2:=X7 hf
      have h3:y.2.2.ownBlock=some g:=by simpa using h1
      refine⟨?_,hB.blL y h2,by rw[hvL y h2];exact h3⟩
      obtain⟨_,_,⟨rows,h4,_⟩,_⟩:=hB.row y h2
      rcases h4.2 with ⟨he,_⟩|⟨g',cap,cur,he,_,hh,_⟩
      ·rw[he]at h3;simp[Value.ownBlock]at h3
      ·rw[he]at h3
       have:g'=g:=by simpa [Value.ownBlock]using h3
       subst this
       exact(AH.1 hh).1
    unfold Cj at hk
    split at hk
    ·rename_i d g0 l
     by_cases he:g=g0
     ·rw[ak he]at hk
      cases hk
      obtain⟨h1,_,_,cs,e,f,t,x,h6,_⟩:=hB.bxB d g0 l rfl
      subst he
      exact⟨(AH.1 h6).1,h1,(hbB d g l rfl).symm⟩
     ·rw[ah he]at hk
      exact aBE hk
    ·exact aBE hk)
 refine⟨aLK.1,fun c v hc=>?_⟩
 cases c with
 |own i len =>
  cases len with
  |some l=>exact hc.elim
  |none =>
   obtain⟨b,hb⟩:=hc
   have hhv:=hvL _ hb
   refine⟨hB.blL _ hb,?_,hhv.symm⟩
   rw[show(G.back w.heap.size own0 cc L B).hv i=v from hhv]
   obtain⟨_,_,⟨rows,ho,_⟩,_⟩:=hB.row _ hb
   rcases ho.2 with ⟨he,_⟩|⟨g',cap,cur,he,_⟩
   ·exact⟨_,_,_,he⟩
   ·exact⟨_,_,_,he⟩
 |int k n=>exact hc
 |bool b=>exact hc
 |str s=>exact hc
 |_=>exact hc.elim
def jq:List AC→List Nat
 |[]=>[]
 |.own id _::l=>id::jq l
 |_::l=>jq l
theorem aDa {m:Nat}(hm:m=2∨m=3){seen:List Nat}{id:Nat}{len:Option Int}{l:List AC}(h:il st m seen (.own id len::l)=true) :
  ∃b,st.rP id=some b∧(m=2→b.f=true)∧b.w=true∧id ∉ seen∧len=none∧il st m (id::seen) l=true:=by
 simp only[il]at h
 split at h
 ·rename_i b hb
  have hlen:∀o:Option Int,(match o with|none=>true|some _=>false)=true→o=none:=by
   intro o ho
   cases o with
   |none=>rfl
   |some _=>cases ho
  have hns:∀c:Bool,(!c)=true→c=false:=by intro c hc;cases c with|false=>rfl|true=>cases hc
  have Ba:XC seen id=false→id ∉ seen:=fun hf hi=>by rw[Ue.2 hi]at hf;cases hf
  rcases hm with rfl|rfl
  ·simp only[aJ,mh]at h
   exact⟨b,hb,fun _=>h.1.1.elim (fun h=>h.elim (fun h=>h) (fun h=>by cases h)) (fun h=>by cases h),h.1.2.1.1,Ba (hns _ h.1.2.1.2),hlen _ h.1.2.2,h.2⟩
  ·simp only[aJ]at h
   exact⟨b,hb,fun h2=>(by cases h2),h.1.2.1.1,Ba (hns _ h.1.2.1.2),hlen _ h.1.2.2,h.2⟩
 ·cases h
theorem azn {m:Nat}{seen:List Nat}{c:AC}{l:List AC}(hc:∀id len,c≠.own id len)(h:il st m seen (c::l)=true):il st m seen l=true:=by
 cases c with
 |own id len=>exact absurd rfl (hc id len)
 |ro f e t xs=>simp only[il,aJ]at h;exact h.2
 |_=>exact h
theorem WW {m:Nat}(hm:m=2∨m=3):∀{l:List AC} {seen:List Nat},il st m seen l=true→(jq l).Nodup∧(∀id∈jq l,id ∉ seen)∧∀id len,AC.own id len∈l→len=none∧∃b,st.rP id=some b
 |[],seen,_=>⟨List.nodup_nil,fun id hi=>by simp[jq]at hi,fun id len hi=>by simp at hi⟩
 |c::l,seen,h=>by
  by_cases hc:∃id len,c=.own id len
  ·obtain⟨id,len,rfl⟩:=hc
   obtain⟨b,hb,_,_,hns,hlen,ht⟩:=aDa hm h
   obtain⟨h1,h2,h3⟩:=WW hm ht
   refine⟨List.nodup_cons.2 ⟨fun hi=>h2 id hi (by simp),h1⟩,fun i hi=>?_,fun i ln hi=>?_⟩
   ·rcases gU.1 (show i∈id::jq l from hi) with rfl|hi
    ·exact hns
    ·exact fun hs=>h2 i hi (by simp[hs])
   ·rcases gU.1 hi with he|hi
    ·cases he
     exact⟨hlen,b,hb⟩
    ·exact h3 i ln hi
  ·have hc':∀id len,c≠.own id len:=fun id len he=>hc ⟨id,len,he⟩
   obtain⟨h1,h2,h3⟩:=WW hm (azn hc' h)
   have he:jq (c::l)=jq l:=by
    cases c with
    |own id len=>exact absurd rfl (hc' id len)
    |_=>rfl
   rw[he]
   refine⟨h1,h2,fun i ln hi=>?_⟩
   rcases gU.1 hi with he'|hi
   ·exact absurd he'.symm (hc' i ln)
   ·exact h3 i ln hi
theorem ae3 (id:Nat):∀(l:List AC),look (st.gone l).bl id=if id∈jq l then some none else look st.bl id
 |[]=>by simp[jq,St.gone]
 |c::l=>by
  have ih:=ae3 id l
  cases c with
  |own i len =>
   show look ((i,none)::(st.gone l).bl) id=_
   rw[aw]
   by_cases hi:i=id
   ·simp[hi,jq]
   ·rw[ah hi,ih]
    have hi':¬id=i:=fun e=>hi e.symm
    simp[jq,hi']
  |_=>exact ih
structure atB (w':World) (okE:Nat→Prop) (f:Bool) (cc:Nat→Option Nat) (G:Gh) (st:St) (z:Nat×Nat×gq×Value):Prop where
 wr:z.2.2.1.w=true
 nf:z.2.2.1.f=f
 pos:0<z.2.2.1.t.n
 row:∃rows,w'.ownsRow 0 z.2.2.1.e z.2.2.1.t.n z.2.2.2 z.2.2.1.xs.length rows∧fM w' okE z.2.2.1.t rows z.2.2.1.xs
 rP:∀g,z.2.2.2.ownBlock=some g→cc g=some z.1
 hv:z.2.2.2=G.hv z.2.1
 old:∃b,look st.bl z.2.1=some (some b)∧b.t=z.2.2.1.t
theorem FrC.len {w:World}{okE:Nat→Prop}{own:Nat→Option Nat}:∀{t:Ty} {x:t.D} {j:Nat} {cs:List Value},FrC w okE own t x j cs→cs.length=t.n
 |.int _,_,_,_,h=>by rw[show _=_ from h];rfl
 |.bool,_,_,_,h=>by rw[show _=_ from h];rfl
 |.str,_,_,_,h=>by rw[show _=_ from h];rfl
 |.unit,_,_,_,h=>by rw[show _=_ from h];rfl
 |.pair a b,_,_,_,h=>by
  obtain⟨c1,c2,rfl,h1,h2⟩:=h
  simp[Ty.n,FrC.len h1,FrC.len h2]
 |.sl e t,_,_,_,h=>by
  obtain⟨v,rows,rfl,_⟩:=h
  rfl
theorem FrC.els {w:World}{okE al2:Nat→Prop}{own:Nat→Option Nat}:∀{t:Ty} {x:t.D} {j:Nat} {cs:List Value},FrC w okE own t x j cs→(∀g,okE g→al2 g)→FrC w al2 own t x j cs
 |.int _,_,_,_,h,_=>h
 |.bool,_,_,_,h,_=>h
 |.str,_,_,_,h,_=>h
 |.unit,_,_,_,h,_=>h
 |.pair a b,_,_,_,h,he=>by
  obtain⟨c1,c2,e,h1,h2⟩:=h
  exact⟨c1,c2,e,FrC.els h1 he,FrC.els h2 he⟩
 |.sl e t,_,_,_,h,he=>by
  obtain⟨v,rows,h1,h2,h3,h4,h5⟩:=h
  exact⟨v,rows,h1,h2,h3,h4,ml he h5⟩
theorem pX.aI7 {w:World}{okE al2:Nat→Prop}{own:Nat→Option Nat}(he:∀g,okE g→al2 g):∀{rs:List (Ty×Bool)} {x:Args rs} {j:Nat} {vs:List Value},pX w okE own rs x j vs→pX w al2 own rs x j vs
 |[],_,_,_,h=>h
 |_::_,_,_,_,h=>by
  obtain⟨v,vs',e,⟨cs,h1,h2⟩,h3⟩:=h
  exact⟨v,vs',e,⟨cs,FrC.els h1 he,h2⟩,pX.aI7 he h3⟩
theorem aHG (h:Inv w0 G st a w){l:List AC}:∀t c v xs,c∈l→bN G w st.bx st.bl c v→df st t c=some xs→∀e,Rd w (fun _=>True) (.sl e t) xs [v]:=fun t c v xs _=>Ud h t c v xs
theorem ae4 {w':World}{okE:Nat→Prop}{f:Bool}{cc:Nat→Option Nat}:∀{t:Ty} {x0 x:t.D} {j:Nat} {l l':List AC} {vs vs2 cs:List Value},
  im st t l=some (x0,l')→cR (bN G w st.bx st.bl) l vs→(∀id len,AC.own id len∈l→len=none∧∃b,st.rP id=some b)→FrC w' okE cc t x j cs→vs=cs++vs2 →
  ∃(l1:List AC) (L:List (Nat×Nat×gq×Value)),l=l1++l'∧cR (bN G w st.bx st.bl) l' vs2∧(tN f t x l).2=l'∧(tN f t x l).1=L.map (fun z=>(z.2.1,some z.2.2.1))∧L.map (·.2.1)=jq l1 ∧
   (∀z∈L,j≤z.1∧z.1<j+t.n∧atB w' okE f cc G st z)∧(∀z∈L,∀z'∈L,z.1=z'.1→z=z')
 |.int k,x0,x,j,l,l',vs,vs2,cs,hi,hrel,bG,hf,he=>by
  cases l with
  |nil=>simp[im]at hi
  |cons c l =>
   cases c with
   |int q n =>
    simp only[im]at hi
    split at hi
    ·cases hi
     subst he
     rw[show cs=_ from hf]at hrel
     exact⟨[_],[],rfl,hrel.2,rfl,rfl,rfl,fun z hz=>by simp at hz,fun z hz=>by simp at hz⟩
    ·cases hi
   |_=>simp[im]at hi
 |.bool,x0,x,j,l,l',vs,vs2,cs,hi,hrel,bG,hf,he=>by
  cases l with
  |nil=>simp[im]at hi
  |cons c l =>
   cases c with
   |bool b =>
    simp only[im]at hi
    cases hi
    subst he
    rw[show cs=_ from hf]at hrel
    exact⟨[_],[],rfl,hrel.2,rfl,rfl,rfl,fun z hz=>by simp at hz,fun z hz=>by simp at hz⟩
   |_=>simp[im]at hi
 |.str,x0,x,j,l,l',vs,vs2,cs,hi,hrel,bG,hf,he=>by
  cases l with
  |nil=>simp[im]at hi
  |cons c l =>
   cases c with
   |str b =>
    simp only[im]at hi
    cases hi
    subst he
    rw[show cs=_ from hf]at hrel
    exact⟨[_],[],rfl,hrel.2,rfl,rfl,rfl,fun z hz=>by simp at hz,fun z hz=>by simp at hz⟩
   |_=>simp[im]at hi
 |.unit,x0,x,j,l,l',vs,vs2,cs,hi,hrel,bG,hf,he=>by
  simp only[im]at hi
  cases hi
  subst he
  rw[show cs=[] from hf]at hrel
  exact⟨[],[],rfl,hrel,by simp[tN],by simp[tN],rfl,fun z hz=>by simp at hz,fun z hz=>by simp at hz⟩
 |.pair p q,x0,x,j,l,l',vs,vs2,cs,hi,hrel,bG,hf,he=>by
  simp only[im]at hi
  split at hi
  ·rename_i y r1 hy
   split at hi
   ·rename_i z r2 hz
    cases hi
    obtain⟨c1,c2,rfl,hf1,hf2⟩:=hf
    obtain⟨l1,L1,h1,h2,h3,h4,h5,h6,h7⟩:=ae4 (f:=f) hy hrel bG hf1 (by rw[he,iK])
    obtain⟨l2,L2,k1,k2,k3,k4,k5,k6,k7⟩:=ae4 (f:=f) (l:=r1) hz h2 (fun id len hm=>bG id len (by rw[h1];simp[hm])) hf2 rfl
    refine⟨l1++l2,L1++L2,by rw[h1,k1,iK],k2,?_,?_,?_,fun z hz=>?_,fun z hz z' KR he'=>?_⟩
    ·simp only[tN,h3,k3]
    ·simp only[tN,h3,h4,k4,aeO]
    ·rw[aeO,h5,k5]
     have app:∀(a b:List AC),jq (a++b)=jq a++jq b:=by
      intro a b
      induction a with
      |nil=>rfl
      |cons c a ih =>
       cases c with
       |own id len=>simp[jq,ih]
       |_=>simp[jq,ih]
     rw[app]
    ·rcases kI.1 hz with hz|hz
     ·obtain⟨a1,a2,a3⟩:=h6 z hz
      exact⟨a1,by simp only[Ty.n];omega,a3⟩
     ·obtain⟨a1,a2,a3⟩:=k6 z hz
      exact⟨by omega,by simp only[Ty.n];omega,a3⟩
    ·rcases kI.1 hz with hz|hz<;>rcases kI.1 KR with KR|KR
     ·exact h7 z hz z' KR he'
     ·have:=(h6 z hz).2.1
      have:=(k6 z' KR).1
      omega
     ·have:=(k6 z hz).1
      have:=(h6 z' KR).2.1
      omega
     ·exact k7 z hz z' KR he'
   ·cases hi
  ·cases hi
 |.sl e t,x0,x,j,l,l',vs,vs2,cs,hi,hrel,bG,hf,he=>by
  cases l with
  |nil=>simp[im]at hi
  |cons c l =>
   simp only[im]at hi
   split at hi
   ·rename_i ys hys
    cases hi
    obtain⟨v,rows,rfl,hp,ho,hb,hel⟩:=hf
    subst he
    have awl:bN G w st.bx st.bl c v:=hrel.1
    have aFh:cR (bN G w st.bx st.bl) l' vs2:=hrel.2
    cases c with
    |own id len =>
     obtain⟨hlen,b,aHA⟩:=bG id len (by simp)
     subst hlen
     simp only[df,aHA]at hys
     split at hys
     ·rename_i ht
      refine⟨[.own id none],[(j,id,⟨e,t,x,f,true⟩,v)],rfl,aFh,rfl,rfl,rfl,fun z hz=>?_,fun z hz z' KR _=>?_⟩
      ·simp at hz
       subst hz
       refine⟨b9 _,by simp[Ty.n],rfl,rfl,hp,⟨rows,ho,hel⟩,hb,awl.2.2,b,fm aHA,Ty.beq_eq ht⟩
      ·simp at hz KR
       rw[hz,KR]
     ·cases hys
    |nil=>exact⟨[_],[],rfl,aFh,rfl,rfl,rfl,fun z hz=>by simp at hz,fun z hz=>by simp at hz⟩
    |ro f' e' t' xs'=>exact⟨[_],[],rfl,aFh,rfl,rfl,rfl,fun z hz=>by simp at hz,fun z hz=>by simp at hz⟩
    |_=>simp[df]at hys
   ·cases hi
theorem Uh {dL:St}(h:iu st dL)(pm:PM):∀(i:Nat) (os:List Operand),iq dL pm i os=iq st pm i os
 |0,[]=>rfl
 |_+1,[]=>rfl
 |0,o::os=>by
  simp only[iq]
  rw[aca h.tm,Nw h os,h.bx]
 |i+1,o::os=>by
  simp only[iq]
  rw[aca h.tm,Uh h pm i os]
theorem Bc (h:Inv w0 G st a w){ok nw:Nat→Prop}{own0:Nat→Option Nat}{g0:Nat}{pm:PM}:∀(i:Nat) (ps:List (Ty×Bool)) (os:List Operand) (x:Args ps),
  (∀t c v xs,c∈iq st pm i os→bN G w st.bx st.bl c v→df st t c=some xs→∀e,Rd w ok (.sl e t) xs [v])→kb st pm i ps os=some x →
  (∀p o y,nN os i=some o→nN ps i=some p→im2 st pm p o=some y→(pm=.rd→∀t c v xs,c∈(st.eT o).cells→bN G w st.bx st.bl c v→df st t c=some xs→∀e,Rd w ok (.sl e t) xs [v])→aLF w ok nw own0 g0 pm p y (a.eval o)) →
  ∃o p,nN os i=some o∧nN ps i=some p∧(∃y,im2 st pm p o=some y)∧Uc w ok nw own0 g0 pm i ps x (os.map a.eval) (a.eval o)
 |0,[],os,x,_,hi,_=>by cases os<;>simp[kb]at hi
 |_+1,[],os,x,_,hi,_=>by cases os<;>simp[kb]at hi
 |0,p::ps,[],x,_,hi,_=>by simp[kb]at hi
 |_+1,p::ps,[],x,_,hi,_=>by simp[kb]at hi
 |0,p::ps,o::os,x,hc,hi,hs=>by
  simp only[kb]at hi
  split at hi
  ·rename_i y hy
   split at hi
   ·rename_i ys hys
    cases hi
    refine⟨o,p,rfl,rfl,⟨y,hy⟩,os.map a.eval,rfl,hs p o y rfl rfl hy (fun hp t c v xs hm=>hc t c v xs ?_),Iv h ps os ys (fun t c v xs hm=>hc t c v xs ?_) hys⟩
    ·subst hp
     simp[iq,hm]
    ·simp[iq,hm]
   ·cases hi
  ·cases hi
 |i+1,p::ps,o::os,x,hc,hi,hs=>by
  simp only[kb]at hi
  split at hi
  ·rename_i y hy
   split at hi
   ·rename_i ys hys
    cases hi
    obtain⟨o',p',h1,h2,h3,h4⟩:=Bc h i ps os ys (fun t c v xs hm=>hc t c v xs (by simp[iq,hm])) hys (fun p o y h1 h2=>hs p o y h1 h2)
    exact⟨o',p',h1,h2,h3,a.eval o,os.map a.eval,rfl,atA h (fun t c v xs hm=>hc t c v xs (by simp[iq,hm])) hy,h4⟩
   ·cases hi
  ·cases hi
theorem I1 (h:Inv w0 G st a w){own0 cc:Nat→Option Nat}(Oc:∀g j,own0 g=some j→(G.own g).isSome=true)(L:List (Nat×gq×Value))(B:Option (Nat×Nat×List AC))(f:Bool)(g:Nat)
  (hg:cc g=none∧((G.nw g∧(G.own g=none∨(own0 g).isSome=true))∨(f=false∧RO G false g))):RO (G.back w.heap.size own0 cc L B) f g:=by
 obtain⟨h1,h2⟩:=hg
 have bG:(G.back w.heap.size own0 cc L B).own g=none:=by
  show(if g<w.heap.size∧own0 g=none then G.own g else match cc g with|none=>none|some _=>Cj L B g)=none
  by_cases hc:g<w.heap.size∧own0 g=none
  ·rw[ak hc]
   rcases h2 with ⟨_,h3|h3⟩|⟨_,h3⟩
   ·exact h3
   ·rw[hc.2]at h3;cases h3
   ·exact h3.1
  ·rw[ah hc,h1]
 refine⟨bG,?_⟩
 rcases h2 with ⟨h3,_⟩|⟨h3,h4⟩
 ·exact .inl h3
 ·rcases h4.2 with h5|h5
  ·exact .inl h5
  ·exact .inr ⟨h3,h5.2⟩
theorem Od (h:Inv w0 G st a w){own0:Nat→Option Nat}(Oc:∀g j,own0 g=some j→(G.own g).isSome=true) :
  Handed w (fun g=>w0.w.heap.size≤g∨w0.fr g) (RO G false) (fun g=>G.nw g∧(G.own g=none∨(own0 g).isSome=true)) own0 where
 mj g hg:=by
  refine⟨h.av8 hg,.inl ?_⟩
  cases ho:G.own g with
  |none=>rfl
  |some k=>have:=(h.own g k ho).2.1;omega
 bG g j hj:=by
  obtain⟨k,hk⟩:=mg.1 (Oc g j hj)
  obtain⟨h1,h2,_⟩:=h.own g k hk
  exact⟨⟨h.T2 hk,.inr (by rw[hj];rfl)⟩,h2,h1⟩
 dS g hg:=by
  cases ho:own0 g with
  |none=>rfl
  |some j =>
   have:=Oc g j ho
   rw[hg.1]at this
   cases this
theorem azo {ok:Nat→Prop}{p:Ty×Bool}(hp:p.2=true){x:Args [p]}{cs:Array Value}(h:eU w ok [p] x [.agg cs]):Rd w ok p.1 x.1 cs.toList:=by
 obtain⟨v,vs',he,⟨cs',h1,h2⟩,_⟩:=h
 rw[hp]at h2
 have:v=.agg cs:=(xS he).1.symm
 rw[this]at h2
 have h3:cs=cs'.toArray:=Value.agg.inj h2
 rw[h3]
 exact h1
theorem Ui {G:Gh}{bx:List (Nat×List AC)}{bl:List (Nat×Option gq)}{L:List (Nat×gq×Value)}(h:∀c v,tP L c v→bN G w bx bl c v){c:CV}{v:Value}(hc:awi L c v):fk G w bx bl c v:=by
 cases c with
 |c x=>exact h x v hc
 |agg l =>
  obtain⟨cs,he,hl⟩:=hc
  exact⟨cs,he,hl.imp h⟩
theorem aHH (h:Inv w0 G st a w){con:N4}{ok:Nat→Prop}{w':World}{g0:Nat}{u:Value}{y:Args con.rs×Args con.qs}{us:List Value}(dS:∀g,ok g→RO G false g)
  {fl:Bool} (hm:rdM con.m=some fl) (dd:alY con w w' ok (fun g=>G.nw g∧(G.own g=none∨(none:Option Nat).isSome=true)) (fun _=>none) g0 u y us) (hK0:fE (fun g=>(none:Option Nat).isSome=true) w w') {d:Tmp}
  (hr:atd fl con.rs st d y.1 k=some r) (hK:rT w0 k r K):K (a.put (some d) (fT us)) w':=by
 obtain⟨cc,mj,_,dd⟩:=dd
 have dd:∃b cs e,us=[.pointer (some ⟨b,0,none⟩)]∧w.heap.size≤b∧(cc b).isSome=true∧w'.heap[b]?=some (.cells cs e (0,0)) ∧
   eU w' (fun g=>cc g=none∧((G.nw g∧(G.own g=none∨(none:Option Nat).isSome=true))∨(fl=false∧ok g))) con.rs y.1 [.agg cs]:=by
  unfold rdM at hm
  split at hm
  ·rename_i h4
   cases hm
   rw[h4]at dd
   obtain⟨b,cs,e,h1,h2,h3,h4,h5⟩:=dd
   exact⟨b,cs,e,h1,h2,h3,h4,ku (fun g hg=>⟨hg.1,.inl hg.2⟩) h5⟩
  ·rename_i h4
   cases hm
   rw[h4]at dd
   obtain⟨b,cs,e,h1,h2,h3,h4,h5⟩:=dd
   exact⟨b,cs,e,h1,h2,h3,h4,ku (fun g hg=>⟨hg.1,hg.2.imp_right fun h=>⟨rfl,h⟩⟩) h5⟩
  ·cases hm
 obtain⟨b,cs,e,rfl,hsz,hob,hh,hargs⟩:=dd
 obtain⟨ps,i,pm,rs,m,qs,g⟩:=con
 dsimp only at *
 unfold atd at hr
 split at hr
 ·rename_i a0 r0
  split at hr
  ·rename_i hl
   obtain⟨hc,hr⟩:=aX hr
   rw[aJ]at hc
   have kc:=azo hc.2 hargs
   have hB:al1 w w' G st (fun _=>none) cc (fun f g=>cc g=none∧((G.nw g∧(G.own g=none∨(none:Option Nat).isSome=true))∨(f=false∧RO G false g))) [] (some (d,b,ex fl a0.1 y.1.1))
     ((d,ex fl a0.1 y.1.1)::st.bx) st.bl:=by
    refine⟨hK0,fun g j hg=>(by cases hg),fun g j hg=>(by cases hg),mj,fun f g hg=>I1 h (fun g j hg=>by cases hg) [] _ f g hg,fun z hz=>(by simp at hz),fun z hz=>(by simp at hz),fun z hz=>(by simp at hz),fun z hz=>(by simp at hz),
     fun i b hb=>.inr ⟨fun z hz=>(by simp at hz),hb,fun _ _=>rfl⟩,fun i hi=>hi,fun z hz=>(by simp at hz),fun d' l hd=>?_,fun d' hd=>xc _ trivial hd,fun d' g l he=>?_⟩
    ·rw[aw]at hd
     by_cases hdd:d=d'
     ·subst hdd
      rw[ak rfl]at hd
      cases hd
      exact .inl ⟨b,rfl⟩
     ·rw[ah hdd]at hd
      exact .inr ⟨fun d2 g l' he=>(by cases he;exact hdd),hd,rfl⟩
    ·cases he
     refine⟨by simp[aw],.inl hl,⟨hob,fun z hz=>(by simp at hz)⟩,cs,e,fl,a0.1,y.1.1,hh,rfl,jo (fun g hg=>⟨hg.1,hg.2.imp_right fun h=>⟨h.1,dS g h.2⟩⟩) kc⟩
   obtain⟨hinv,_⟩:=h.back hB
   have h2:=hinv.put d (ir hc.1) (v:=.v (.c (.ptr d 0))) (u:=.pointer (some ⟨b,0,none⟩)) ⟨by simp[aw],by simp[Gh.back]⟩
   exact hK _ _ _ _ h2 hr
  ·cases hr
 ·cases hr
theorem aag {id:Nat}:∀{l:List AC} {k:Nat},id ∉ jq l→Uf l id k=none
 |[],_,_=>rfl
 |c::l,k,h=>by
  cases c with
  |own i len =>
   have h1:i≠id:=fun e=>h (by simp[jq,e])
   have h2:id ∉ jq l:=fun hi=>h (by simp[jq,hi])
   simp[Uf,h1,aag h2]
  |_=>exact aag (l:=l) h
theorem WX {all:List AC}{g j:Nat}(h:cQ G all g=some j):(G.own g).isSome=true:=by
 unfold cQ at h
 split at h
 ·rename_i id hid;rw[hid];rfl
 ·cases h
theorem aFi {all:List AC}{g j:Nat}(h:cQ G all g=some j):G.own g≠some .hid:=by
 unfold cQ at h
 split at h
 ·rename_i id hid;rw[hid];simp
 ·cases h
theorem Ye (h:Inv w0 G st a w){ok:Nat→Prop}{w':World}{rs:List (Ty×Bool)}{m:Nat}{y:Args rs}{us:List Value}(dS:∀g,ok g→RO G false g){all:List AC}{cc:Nat→Option Nat}
  (mj:∀g j,cc g=some j→w.heap.size≤g∨(cQ G all g).isSome=true) (FV:fj rs=true)
  (dd:pX w' (fun g=>cc g=none∧((G.nw g∧(G.own g=none∨(cQ G all g).isSome=true))∨(m2 m=false∧ok g))) cc rs y 0 us) (hK0:fE (fun g=>(cQ G all g).isSome=true) w w') {d:Tmp}
  (hfn:gH (l7 d (m2 m) rs y 0).2 st=true) {bl3:List (Nat×Option gq)} {L2:List (Nat×Nat×gq×Value)}
  (hA:∀i b,look bl3 i=some (some b)→(∃z∈L2,z.2.1=i∧z.2.2.1=b)∨((∀z∈L2,z.2.1≠i)∧i ∉ jq all∧look st.bl i=some (some b))) (hBs:∀i,(look st.bl i).isSome=true→(look bl3 i).isSome=true)
  (hC:∀z∈L2,(look bl3 z.2.1).isSome=true) (hnd:∀z∈L2,∀z'∈L2,z.2.1=z'.2.1→z=z')
  (hL2:∀z∈L2,nOf rs≤z.1∧atB w' (fun g=>cc g=none∧((G.nw g∧(G.own g=none∨(cQ G all g).isSome=true))∨(m2 m=false∧ok g))) (m2 m) cc G st z) (ap7:∀z∈L2,∀z'∈L2,z.1=z'.1→z=z') :
  ∃G',Inv w0 G' {st with bl:=(l7 d (m2 m) rs y 0).2++bl3} a w'∧cR (fk G' w' st.bx ((l7 d (m2 m) rs y 0).2++bl3)) (l7 d (m2 m) rs y 0).1 us:=by
 obtain⟨L1,hF,hcv⟩:=ab6 (id:=d) (f:=m2 m) FV dd
 have hq:=hF.q
 have azp:∀z∈L1,look st.bl z.1=none:=fun z hz=>Ch hfn z.1 (by rw[hq];exact kN hz)
 have Ba:∀z,z∈L1++L2.map (·.2)→z∈L1∨∃p,(p,z)∈L2:=by
  intro z hz
  rcases kI.1 hz with hz|hz
  ·exact .inl hz
  ·obtain⟨q,hq,rfl⟩:=IN.1 hz
   exact .inr ⟨q.1,hq⟩
 have atC:∀z∈L1,∀g,z.2.2.ownBlock=some g→∃j,cc g=some j∧j<nOf rs∧z.1=d*64+j:=by
  intro z hz g hg
  obtain⟨h1,h2,h3⟩:=hF.rows z hz
  exact⟨_,h3.rP g hg,by omega,by omega⟩
 have hB:al1 w w' G st (cQ G all) cc (fun f g=>cc g=none∧((G.nw g∧(G.own g=none∨(cQ G all g).isSome=true))∨(f=false∧RO G false g))) (L1++L2.map (·.2)) none st.bx ((l7 d (m2 m) rs y 0).2++bl3):=by
  refine⟨hK0,fun g j hg=>WX hg,fun g j hg=>aFi hg,mj,fun f g hg=>I1 h (fun g j hg=>WX hg) _ _ f g hg,fun z hz=>?_,fun z hz z' KR g hg hg'=>?_,fun z hz z' KR he=>?_,fun z hz=>?_,fun i b hb=>?_,fun i hi=>?_,fun z hz=>?_,fun d' l hl=>?_,
   fun d' hd=>hd,fun d' g l he=>by cases he⟩
  ·rcases Ba z hz with hz|⟨p,hz⟩
   ·obtain⟨h1,h2,h3⟩:=hF.rows z hz
    obtain⟨rows,h4,h5⟩:=h3.row
    refine⟨h3.wr,h3.pos,⟨rows,h4,aeZ (fun T8 g hg=>⟨hg.1,?_⟩) h5⟩,fun g hg=>by rw[h3.rP g hg];rfl⟩
    rw[h3.nf,T8,Bool.or_false]
    exact hg.2.imp_right fun h=>⟨h.1,dS g h.2⟩
   ·obtain⟨h1,h3⟩:=hL2 _ hz
    obtain⟨rows,h4,h5⟩:=h3.row
    refine⟨h3.wr,h3.pos,⟨rows,h4,ml (fun g hg=>⟨hg.1,?_⟩) h5⟩,fun g hg=>by rw[h3.rP g hg];rfl⟩
    rw[show z.2.1.f=m2 m from h3.nf]
    exact hg.2.imp_right fun h=>⟨h.1,dS g h.2⟩
  ·rcases Ba z hz with hz|⟨p,hz⟩<;>rcases Ba z' KR with KR|⟨p',KR⟩
   ·obtain⟨j,h1,_,h2⟩:=atC z hz g hg
    obtain⟨j',h3,_,h4⟩:=atC z' KR g hg'
    rw[h1]at h3
    cases h3
    exact hF.uniq z hz z' KR (by omega)
   ·obtain⟨j,h1,h2,_⟩:=atC z hz g hg
    obtain⟨h3,h4⟩:=hL2 _ KR
    have:=h4.rP g hg'
    rw[h1]at this
    cases this
    dsimp only at h3
    omega
   ·obtain⟨j,h1,h2,_⟩:=atC z' KR g hg'
    obtain⟨h3,h4⟩:=hL2 _ hz
    have:=h4.rP g hg
    rw[h1]at this
    cases this
    dsimp only at h3
    omega
   ·have h1:=(hL2 _ hz).2.rP g hg
    have h2:=(hL2 _ KR).2.rP g hg'
    rw[h1]at h2
    have:=ap7 _ hz _ KR (fR h2)
    exact AJ (·.2) this
  ·rcases Ba z hz with hz|⟨p,hz⟩<;>rcases Ba z' KR with KR|⟨p',KR⟩
   ·exact hF.uniq z hz z' KR he
   ·obtain⟨b,h1,_⟩:=(hL2 _ KR).2.old
    have h2:=azp z hz
    rw[he]at h2
    rw[show look st.bl z'.1=_ from h1]at h2
    cases h2
   ·obtain⟨b,h1,_⟩:=(hL2 _ hz).2.old
    have h2:=azp z' KR
    rw[←he]at h2
    rw[show look st.bl z.1=_ from h1]at h2
    cases h2
   ·exact AJ (·.2) (hnd _ hz _ KR he)
  ·rcases Ba z hz with hz|⟨p,hz⟩
   ·exact .inl (azp z hz)
   ·exact .inr ⟨(hL2 _ hz).2.hv,(hL2 _ hz).2.old⟩
  ·rw[dZ]at hb
   cases hl:look (l7 d (m2 m) rs y 0).2 i with
   |some x =>
    rw[hl]at hb
    cases hb
    rw[hq]at hl
    obtain⟨v,hv⟩:=ab7 hl
    exact .inl ⟨v,by simp[hv]⟩
   |none =>
    rw[hl]at hb
    rcases hA i b hb with ⟨z,hz,rfl,rfl⟩|⟨h1,h2,h3⟩
    ·exact .inl ⟨z.2.2.2,List.mem_append_right _ (IN.2 ⟨z,hz,rfl⟩)⟩
    ·refine .inr ⟨fun z hz=>?_,h3,fun g hg=>?_⟩
     ·rcases Ba z hz with hz|⟨p,hz⟩
      ·rintro rfl
       rw[azp z hz]at h3
       cases h3
      ·exact h1 _ hz
     ·unfold cQ
      rw[hg]
      exact aag h2
  ·rw[dZ]
   cases hl:look (l7 d (m2 m) rs y 0).2 i with
   |some x=>rfl
   |none=>exact hBs i hi
  ·rcases Ba z hz with hz|⟨p,hz⟩
   ·rw[dZ,hq]
    have:=kN hz
    cases hl:look (L1.map fun z=>(z.1,some z.2.1)) z.1 with
    |some x=>rfl
    |none=>rw[hl]at this;cases this
   ·rw[dZ]
    cases hl:look (l7 d (m2 m) rs y 0).2 z.1 with
    |some x=>rfl
    |none=>exact hC _ hz
  ·refine .inr ⟨fun d2 g l' he=>(by cases he),hl,?_⟩
   obtain⟨cs,e,_,h2,_⟩:=h.bx d' l hl
   unfold cQ
   rw[h2]
 obtain⟨hinv,hcell⟩:=h.back hB
 have hrel:=hcv.imp fun c v hc=>Ui hcell (awi.DQ (L':=L1++L2.map (·.2)) (fun z hz=>by simp[hz]) hc)
 exact⟨_,hinv,hrel⟩
theorem al3 (h:Inv w0 G st a w){ok:Nat→Prop}{w':World}{rs:List (Ty×Bool)}{m:Nat}{y:Args rs}{us:List Value}(dS:∀g,ok g→RO G false g){all:List AC}{cc:Nat→Option Nat}
  (mj:∀g j,cc g=some j→w.heap.size≤g∨(cQ G all g).isSome=true) (FV:fj rs=true)
  (dd:pX w' (fun g=>cc g=none∧((G.nw g∧(G.own g=none∨(cQ G all g).isSome=true))∨(m2 m=false∧ok g))) cc rs y 0 us) (hK0:fE (fun g=>(cQ G all g).isSome=true) w w') {d:Tmp}
  (hd:Nat.blt d st.nt=true) (hfn:gH (l7 d (m2 m) rs y 0).2 st=true) {bl3:List (Nat×Option gq)} {L2:List (Nat×Nat×gq×Value)}
  (hA:∀i b,look bl3 i=some (some b)→(∃z∈L2,z.2.1=i∧z.2.2.1=b)∨((∀z∈L2,z.2.1≠i)∧i ∉ jq all∧look st.bl i=some (some b))) (hBs:∀i,(look st.bl i).isSome=true→(look bl3 i).isSome=true)
  (hC:∀z∈L2,(look bl3 z.2.1).isSome=true) (hnd:∀z∈L2,∀z'∈L2,z.2.1=z'.2.1→z=z')
  (hL2:∀z∈L2,nOf rs≤z.1∧atB w' (fun g=>cc g=none∧((G.nw g∧(G.own g=none∨(cQ G all g).isSome=true))∨(m2 m=false∧ok g))) (m2 m) cc G st z) (ap7:∀z∈L2,∀z'∈L2,z.1=z'.1→z=z')
  (hr:k {(st.put d (IQ (l7 d (m2 m) rs y 0).1)) with bl:=(l7 d (m2 m) rs y 0).2++bl3}=some r) (hK:rT w0 k r K):K (a.put (some d) (fT us)) w':=by
 obtain⟨G',hinv,hrel⟩:=Ye h dS mj FV dd hK0 hfn hA hBs hC hnd hL2 ap7
 have h2:=hinv.put d (ir hd) (x5 (R:=fun _ _=>True) hrel)
 exact hK _ _ _ _ h2 hr
theorem aDc {L:List (Nat×Nat×gq×Value)}{i:Nat}:∀{x:Option gq},look (L.map fun z=>(z.2.1,some z.2.2.1)) i=some x→∃z∈L,z.2.1=i∧x=some z.2.2.1:=by
 induction L with
 |nil=>intro x h;simp[look]at h
 |cons z L ih =>
  intro x h
  rw[ua,aw]at h
  by_cases hi:z.2.1=i
  ·rw[ak hi]at h
   exact⟨z,by simp,hi,(fR h).symm⟩
  ·rw[ah hi]at h
   obtain⟨y,h1,h2⟩:=ih h
   exact⟨y,by simp[h1],h2⟩
theorem Uj {L:List (Nat×Nat×gq×Value)}{i:Nat}(h:look (L.map fun z=>(z.2.1,some z.2.2.1)) i=none):∀z∈L,z.2.1≠i:=by
 induction L with
 |nil=>intro z hz;simp at hz
 |cons y L ih =>
  rw[ua,aw]at h
  by_cases hi:y.2.1=i
  ·rw[ak hi]at h;cases h
  ·rw[ah hi]at h
   intro z hz
   rcases gU.1 hz with rfl|hz
   ·exact hi
   ·exact ih h z hz
theorem aDd {bx:List (Nat×List AC)}{bl:List (Nat×Option gq)}{p:Ty×Bool}{c:CV}{u:Value}{x0:p.1.D}(hu:fk G w bx bl c u)(hi:imV st p c=some x0) :
  ∃vs,im st p.1 c.cells=some (x0,[])∧cR (bN G w bx bl) c.cells vs∧u=(match p.2 with|true=>.agg vs.toArray|false=>vs.headD undef)∧(p.2=false→vs.length=1):=by
 obtain⟨t,b⟩:=p
 cases c with
 |agg l =>
  cases b with
  |false=>simp[imV]at hi
  |true =>
   simp only[imV]at hi
   split at hi
   ·rename_i z hz
    cases hi
    obtain⟨vs,hv,hrel⟩:=hu
    exact⟨vs.toList,hz,hrel,by rw[hv,xR],fun hf=>by cases hf⟩
   ·cases hi
 |c x =>
  cases b with
  |true=>simp[imV]at hi
  |false =>
   simp only[imV]at hi
   split at hi
   ·rename_i z hz
    cases hi
    exact⟨[u],hz,⟨hu,trivial⟩,rfl,fun _=>rfl⟩
   ·cases hi
theorem K0 (c:CV):aU [c]=c.cells:=by simp[aU]
theorem awm (h:Inv w0 G st a w){ok:Nat→Prop}{w':World}{rs:List (Ty×Bool)}{m:Nat}{q:Ty×Bool}{y:Args rs}{y2:q.1.D}{us:List Value}{u:Value}(dS:∀g,ok g→RO G false g){c:CV}{f:Bool}{cc:Nat→Option Nat}
  (hu:fk G w st.bx st.bl c u) {x0:q.1.D} (him:imV st q c=some x0) (hrk:il st (pmM f) [] c.cells=true)
  (mj:∀g j,cc g=some j→w.heap.size≤g∨(cQ G (aU [c]) g).isSome=true)
  (Uk:pX w' (fun g=>cc g=none∧((G.nw g∧(G.own g=none∨(cQ G (aU [c]) g).isSome=true))∨(m2 m=false∧ok g))) cc [q] (y2,()) (nOf rs) [u])
  (ahy:pX w' (fun g=>cc g=none∧((G.nw g∧(G.own g=none∨(cQ G (aU [c]) g).isSome=true))∨(m2 m=false∧ok g))) cc rs y 0 us)
  (hK0:fE (fun g=>(cQ G (aU [c]) g).isSome=true) w w') (FV:fj rs=true) {d:Tmp} (hfn:gH (l7 d (m2 m) rs y 0).2 st=true) :
  ∃G',Inv w0 G' {st with bl:=(l7 d (m2 m) rs y 0).2++((tN (m2 m) q.1 y2 c.cells).1++st.bl)} a w'∧cR (fk G' w' st.bx ((l7 d (m2 m) rs y 0).2++((tN (m2 m) q.1 y2 c.cells).1++st.bl))) (l7 d (m2 m) rs y 0).1 us:=by
 have aJT:=WW (st:=st) (m:=pmM f) (by cases f<;>simp[pmM]) hrk
 have hcell:=K0 c
 obtain⟨v,vs',he,⟨cs,hfr,hv⟩,_⟩:=Uk
 have hvu:v=u:=(xS he).1.symm
 subst hvu
 obtain⟨vs,aLM,hrel,ab9,hlen⟩:=aDd hu him
 have hcs:vs=cs++[]:=by
  rw[gE]
  cases hq2:q.2 with
  |true =>
   rw[hq2]at ab9 hv
   rw[ab9]at hv
   have:=Value.agg.inj hv
   simpa using AJ Array.toList this
  |false =>
   rw[hq2]at ab9 hv
   have h1:=hlen hq2
   have h2:cs.length=1:=by
    have h3:=FrC.len hfr
    obtain⟨vs1,vs2,e2,h4,h5,_⟩:=N8 (ok:=fun _=>True) (aHG h) hrel aLM
    have h6:=h4.len
    have h7:=cR.len h5
    have:vs2=[]:=X6 h7.symm
    subst this
    rw[gE]at e2
    subst e2
    rw[h3,←h6]
    exact h1
   match vs,cs,h1,h2,ab9,hv with
   |[v1],[v2],_,_,ab9,hv =>
    have:v1=v2:=by
     have e3:v=v1:=ab9
     have e4:v=v2:=hv
     rw[←e3,←e4]
    rw[this]
 obtain⟨l1,L,e1,_,_,e4,e5,e6,e7⟩:=ae4 (f:=m2 m) aLM hrel aJT.2.2 hfr hcs
 rw[gE]at e1
 have hnd:∀z∈L,∀z'∈L,z.2.1=z'.2.1→z=z':=by
  have hn:(L.map (·.2.1)).Nodup:=by rw[e5,←e1];exact aJT.1
  intro z hz z' KR he
  clear e4 e5 e6 e7
  induction L with
  |nil=>simp at hz
  |cons q L ih =>
   rw[ua,List.nodup_cons]at hn
   rcases gU.1 hz with e1|h1<;>rcases gU.1 KR with e2|h2
   ·rw[e1,e2]
   ·exact absurd (IN.2 ⟨z',h2,by rw[←he,e1]⟩) hn.1
   ·exact absurd (IN.2 ⟨z,h1,by rw[he,e2]⟩) hn.1
   ·exact ih hn.2 h1 h2
 refine Ye h dS mj FV ahy hK0 hfn (L2:=L) (bl3:=(tN (m2 m) q.1 y2 c.cells).1++st.bl) (fun i b hb=>?_) (fun i hi=>?_) (fun z hz=>?_) hnd (fun z hz=>⟨(e6 z hz).1,(e6 z hz).2.2⟩) e7
 ·rw[e4,dZ]at hb
  cases hl:look (L.map fun z=>(z.2.1,some z.2.2.1)) i with
  |some x =>
   rw[hl]at hb
   dsimp only at hb
   obtain⟨z,hz,h1,h2⟩:=aDc hl
   rw[h2]at hb
   exact .inl ⟨z,hz,h1,fR (fR hb)⟩
  |none =>
   rw[hl]at hb
   have hno:=Uj hl
   refine .inr ⟨hno,fun hi=>?_,hb⟩
   rw[hcell,e1,←e5]at hi
   obtain⟨z,hz,rfl⟩:=IN.1 hi
   exact hno z hz rfl
 ·rw[e4,dZ]
  cases hl:look (L.map fun z=>(z.2.1,some z.2.2.1)) i with
  |some x=>rfl
  |none=>exact hi
 ·rw[e4,dZ]
  cases hl:look (L.map fun z=>(z.2.1,some z.2.2.1)) z.2.1 with
  |some x=>rfl
  |none=>exact absurd rfl (Uj hl z hz)
theorem arQ (h:Inv w0 G st a w){con:N4}{f:Bool}(RL:con.pm=.own f){ok:Nat→Prop}{w':World}{g0:Nat}{u:Value}{y:Args con.rs×Args con.qs}{us:List Value}(dS:∀g,ok g→RO G false g){c:CV}
  (hu:fk G w st.bx st.bl c u) {p:Ty×Bool} (hp:nN con.ps con.i=some p) (hqs:aC9 con) {x0:p.1.D} (him:imV st p c=some x0) (hrk:il st (pmM f) [] c.cells=true)
  (dd:alY con w w' ok (fun g=>G.nw g∧(G.own g=none∨(cQ G (aU [c]) g).isSome=true)) (cQ G (aU [c])) g0 u y us) (hK0:fE (fun g=>(cQ G (aU [c]) g).isSome=true) w w') {d:Tmp}
  (hr:abO con.rs con.qs con.m st c d y k=some r) (hK:rT w0 k r K):K (a.put (some d) (fT us)) w':=by
 obtain⟨cc,mj,Uk,dd⟩:=dd
 rw[RL]at Uk
 obtain⟨ps,i,pm,rs,m,qs,g⟩:=con
 dsimp only at *
 unfold abO at hr
 obtain⟨hc,hr⟩:=aX hr
 simp only[aJ,mh]at hc
 obtain⟨⟨⟨hm,hfn⟩,hd⟩,FV⟩:=hc
 have hm':m=2∨m=3:=hm.imp aN aN
 have ahy:pX w' (fun g=>cc g=none∧((G.nw g∧(G.own g=none∨(cQ G (aU [c]) g).isSome=true))∨(m2 m=false∧ok g))) cc rs y.1 0 us:=by
  rcases hm' with rfl|rfl<;>exact dd
 have aJT:=WW (st:=st) (m:=pmM f) (by cases f<;>simp[pmM]) hrk
 have hcell:=K0 c
 split at hr
 ·
  refine al3 h dS mj FV ahy hK0 hd hfn (L2:=[]) (bl3:=(st.gone c.cells).bl) (fun i b hb=>.inr ?_) (fun i hi=>?_) (fun z hz=>by simp at hz) (fun z hz=>by simp at hz) (fun z hz=>by simp at hz) (fun z hz=>by simp at hz) hr hK
  ·rw[ae3]at hb
   split at hb
   ·cases hb
   ·exact⟨fun z hz=>by simp at hz,by rw[hcell];assumption,hb⟩
  ·rw[ae3]
   split
   ·rfl
   ·exact hi
 ·
  rename_i q y hq
  have hpq:q=p:=by
   rcases hqs with he|⟨p',he,hn⟩
   ·cases he
   ·cases he
    rw[hp]at hn
    exact(fR hn).symm
  subst hpq
  obtain⟨G',hinv,hrel⟩:=awm (q:=q) (y2:=y.2.1) h dS hu him hrk mj Uk ahy hK0 FV hfn
  have h2:=hinv.put d (ir hd) (x5 (R:=fun _ _=>True) hrel)
  exact hK _ _ _ _ h2 hr
 ·cases hr
def dq (g0:Nat)(g:Nat):Option Nat:=if g=g0 then some 0 else none
theorem qO {g0 g:Nat}(h:g≠g0):dq g0 g=none:=by simp[dq,h]
theorem rV (h:Inv w0 G st a w){b:Nat}{l0:List AC}(hl0:look st.bx b=some l0){w':World}{cc:Nat→Option Nat}
  (mj:∀g j,cc g=some j→w.heap.size≤g∨(dq (G.hb b) g).isSome=true) (hK0:fE (fun g=>(dq (G.hb b) g).isSome=true) w w') {p:Ty×Bool} {z:p.1.D} {cs:Array Value} {e:TypeId} {n:Nat}
  (hj:∃j,cc (G.hb b)=some j∧n≤j) (hh:w'.heap[G.hb b]?=some (.cells cs e (0,0)))
  {Eb Er:Nat→Prop} {fb f:Bool} (hEb:∀g,Eb g→(G.nw g∧(G.own g=none∨(dq (G.hb b) g).isSome=true))∨(fb=false∧RO G false g))
  (hEr:∀g,Er g→(G.nw g∧(G.own g=none∨(dq (G.hb b) g).isSome=true))∨(f=false∧RO G false g))
  (kc:Rd w' (fun g=>cc g=none∧Eb g) p.1 z cs.toList) {q:List (Nat×Option gq)} {L1:List (Nat×gq×Value)} {d:Nat}
  (hF:Fr w' (fun g=>cc g=none∧Er g) f cc d 0 (0+n) q L1) (hfn:gH q st=true) :
  Inv w0 (G.back w.heap.size (dq (G.hb b)) cc L1 (some (b,G.hb b,ex fb p.1 z))) {st with bx:=(b,ex fb p.1 z)::st.bx,bl:=q++st.bl} a w' ∧
   ∀c v,tP L1 c v→bN (G.back w.heap.size (dq (G.hb b)) cc L1 (some (b,G.hb b,ex fb p.1 z))) w' ((b,ex fb p.1 z)::st.bx) (q++st.bl) c v:=by
 obtain⟨cs0,e0,_,bG,_⟩:=h.bx b l0 hl0
 have hq:=hF.q
 have Oc:∀g j,dq (G.hb b) g=some j→(G.own g).isSome=true:=by
  intro g j hg
  unfold dq at hg
  split at hg
  ·rename_i he
   rw[he,bG]
   rfl
  ·cases hg
 have aJV:∀g j,dq (G.hb b) g=some j→G.own g≠some .hid:=by
  intro g j hg
  unfold dq at hg
  split at hg
  ·rename_i he
   rw[he,bG]
   simp
  ·cases hg
 have azp:∀z∈L1,look st.bl z.1=none:=fun z hz=>Ch hfn z.1 (by rw[hq];exact kN hz)
 have ap7:∀z∈L1,∀g,z.2.2.ownBlock=some g→∃j,cc g=some j∧j<n∧z.1=d*64+j:=by
  intro z hz g hg
  obtain⟨h1,h2,h3⟩:=hF.rows z hz
  exact⟨_,h3.rP g hg,by omega,by omega⟩
 refine h.back (okE:=fun f g=>cc g=none∧((G.nw g∧(G.own g=none∨(dq (G.hb b) g).isSome=true))∨(f=false∧RO G false g))) ⟨hK0,Oc,aJV,mj,fun f g hg=>I1 h Oc _ _ f g hg,fun y hy=>?_,fun y hy y' hy' g hg hg'=>?_,hF.uniq,
  fun y hy=>.inl (azp y hy),fun i bk hb=>?_,fun i hi=>?_,fun y hy=>?_,fun d' l hl=>?_,fun d' hd=>xc _ trivial hd,fun d' g l he=>?_⟩
 ·obtain⟨h1,h2,h3⟩:=hF.rows y hy
  obtain⟨rows,h4,h5⟩:=h3.row
  refine⟨h3.wr,h3.pos,⟨rows,h4,aeZ (fun T8 g hg=>⟨hg.1,?_⟩) h5⟩,fun g hg=>by rw[h3.rP g hg];rfl⟩
  rw[h3.nf,T8,Bool.or_false]
  exact hEr g hg.2
 ·obtain⟨j,h1,_,h2⟩:=ap7 y hy g hg
  obtain⟨j',h3,_,h4⟩:=ap7 y' hy' g hg'
  rw[h1]at h3
  cases h3
  exact hF.uniq y hy y' hy' (by omega)
 ·rw[dZ]at hb
  cases hl:look q i with
  |some x =>
   rw[hl]at hb
   cases hb
   rw[hq]at hl
   obtain⟨v,hv⟩:=ab7 hl
   exact .inl ⟨v,hv⟩
  |none =>
   rw[hl]at hb
   refine .inr ⟨fun y hy=>?_,hb,fun g hg=>?_⟩
   ·rintro rfl
    have Cf:look st.bl y.1=some (some bk):=hb
    rw[azp y hy]at Cf
    cases Cf
   ·refine qO ?_
    rintro rfl
    rw[bG]at hg
    cases hg
 ·rw[dZ]
  cases hl:look q i with
  |some x=>rfl
  |none=>exact hi
 ·rw[dZ,hq]
  have:=kN hy
  cases hl:look (L1.map fun z=>(z.1,some z.2.1)) y.1 with
  |some x=>rfl
  |none=>rw[hl]at this;cases this
 ·rw[aw]at hl
  by_cases hdd:b=d'
  ·subst hdd
   rw[ak rfl]at hl
   cases hl
   exact .inl ⟨_,rfl⟩
  ·rw[ah hdd]at hl
   refine .inr ⟨fun d2 g l' he=>(by cases he;exact hdd),hl,?_⟩
   obtain⟨cs,e,_,h2,_⟩:=h.bx d' l hl
   refine qO ?_
   intro he
   rw[he,bG]at h2
   cases h2
   exact hdd rfl
 ·cases he
  obtain⟨j,hj1,hj2⟩:=hj
  refine⟨by simp[aw],.inr rfl,⟨by rw[hj1];rfl,fun y hy hg=>?_⟩,cs,e,fb,p.1,z,hh,rfl,jo (fun g hg=>⟨hg.1,hEb g hg.2⟩) kc⟩
  obtain⟨j',h1,h2,_⟩:=ap7 y hy _ hg
  rw[hj1]at h1
  cases h1
  omega
theorem aFk (h:Inv w0 G st a w){con:N4}(RL:con.pm=.box){ok:Nat→Prop}{w':World}{u:Value}{y:Args con.rs×Args con.qs}{us:List Value}(dS:∀g,ok g→RO G false g){b off:Nat}{l0:List AC}(hl0:look st.bx b=some l0)
  {p:Ty×Bool} (hp:nN con.ps con.i=some p) (hp2:p.2=true) (hqs:aC9 con)
  (dd:alY con w w' ok (fun g=>G.nw g∧(G.own g=none∨(dq (G.hb b) g).isSome=true)) (dq (G.hb b)) (G.hb b) u y us) (hK0:fE (fun g=>(dq (G.hb b) g).isSome=true) w w') {d:Tmp}
  (hr:ak0 con.rs con.qs con.m st (.c (.ptr b off)) d y k=some r) (hK:rT w0 k r K):K (a.put (some d) (fT us)) w':=by
 obtain⟨cc,mj,Uk,dd⟩:=dd
 rw[RL]at Uk
 obtain⟨hj,cs,e,hh,hargs⟩:=Uk
 obtain⟨ps,i,pm,rs,m,qs,g⟩:=con
 dsimp only at *
 unfold ak0 at hr
 split at hr
 ·rename_i _ q y b1 o1 hcv
  cases hcv
  have hpq:q=p:=by
   rcases hqs with he|⟨p',he,hn⟩
   ·cases he
   ·cases he
    rw[hp]at hn
    exact(fR hn).symm
  subst hpq
  have kc:=azo hp2 hargs
  have nil:Fr w' (fun g=>cc g=none∧((G.nw g∧(G.own g=none∨(dq (G.hb b) g).isSome=true))∨(false=false∧ok g))) false cc d 0 (0+nOf rs) [] []:=Fr.nil
  split at hr
  ·obtain⟨hc,hr⟩:=aX hr
   rw[aJ]at hc
   obtain⟨hinv,_⟩:=rV (fb:=false) (f:=false) h hl0 mj hK0 hj hh (fun g hg=>hg.imp_right fun h=>⟨rfl,dS g h⟩) (fun g hg=>hg.imp_right fun h=>⟨h.1,dS g h.2⟩) kc nil rfl
   have hrel:=Ci (f:=false) (bx:=(b,ex false q.1 y.2.1)::st.bx) (bl:=[]++st.bl) hc.2 (ku (fun g hg=>I1 (cc:=cc) h (own0:=dq (G.hb b)) (fun g j hg=>by
    obtain⟨_,_,_,bG,_⟩:=h.bx b l0 hl0
    unfold dq at hg
    split at hg
    ·rename_i he;rw[he,bG];rfl
    ·cases hg) [] (some (b,G.hb b,ex false q.1 y.2.1)) false g ⟨hg.1,hg.2.imp_right fun h=>⟨rfl,dS g h⟩⟩) dd)
   have h2:=hinv.put d (ir hc.1) (x5 (R:=fun _ _=>True) hrel)
   exact hK _ _ _ _ h2 hr
  ·obtain⟨hc,hr⟩:=aX hr
   rw[aJ]at hc
   obtain⟨hinv,_⟩:=rV (fb:=false) (f:=false) h hl0 mj hK0 hj hh (fun g hg=>hg.imp_right fun h=>⟨rfl,dS g h⟩) (fun g hg=>hg.imp_right fun h=>⟨h.1,dS g h.2⟩) kc nil rfl
   have hrel:=Ci (f:=true) (bx:=(b,ex false q.1 y.2.1)::st.bx) (bl:=[]++st.bl) hc.2 (ku (fun g hg=>I1 (cc:=cc) h (own0:=dq (G.hb b)) (fun g j hg=>by
    obtain⟨_,_,_,bG,_⟩:=h.bx b l0 hl0
    unfold dq at hg
    split at hg
    ·rename_i he;rw[he,bG];rfl
    ·cases hg) [] (some (b,G.hb b,ex false q.1 y.2.1)) true g ⟨hg.1,.inl hg.2⟩) dd)
   have h2:=hinv.put d (ir hc.1) (x5 (R:=fun _ _=>True) hrel)
   exact hK _ _ _ _ h2 hr
  ·obtain⟨hc,hr⟩:=aX hr
   simp only[aJ,mh]at hc
   obtain⟨⟨⟨hm,hfn⟩,hd⟩,FV⟩:=hc
   have ahy:pX w' (fun g=>cc g=none∧((G.nw g∧(G.own g=none∨(dq (G.hb b) g).isSome=true))∨(m2 m=false∧ok g))) cc rs y.1 0 us:=by
    rcases hm.imp aN aN with rfl|rfl<;>exact dd
   obtain⟨L,hF,hcv⟩:=ab6 (id:=d) (f:=m2 m) FV ahy
   obtain⟨hinv,hcell⟩:=rV (fb:=false) h hl0 mj hK0 hj hh (fun g hg=>hg.imp_right fun h=>⟨rfl,dS g h⟩) (fun g hg=>hg.imp_right fun h=>⟨h.1,dS g h.2⟩) kc hF hfn
   have hrel:=hcv.imp fun c v hc=>Ui hcell hc
   have h2:=hinv.put d (ir hd) (x5 (R:=fun _ _=>True) hrel)
   exact hK _ _ _ _ h2 hr
 ·cases hr
def nwC (G:Gh)(fl:Bool)(b g:Nat):Prop:=(G.nw g∧(G.own g=none∨(dq (G.hb b) g).isSome=true))∨(fl=false∧RO G false g)
theorem aFl (h:Inv w0 G st a w){con:N4}(RL:con.pm=.cur){ok:Nat→Prop}{w':World}{u:Value}{y:Args con.rs×Args con.qs}{us:List Value}(dS:con.m=1∨con.m=2∨∀g,ok g→RO G false g){b off:Nat}{l0:List AC}(hl0:look st.bx b=some l0)
  {p:Ty×Bool} (hp:nN con.ps con.i=some p) (hp2:p.2=true) (hqs:aC9 con)
  (dd:alY con w w' ok (nwC G (cW l0) b) (dq (G.hb b)) (G.hb b) u y us) (hK0:fE (fun g=>(dq (G.hb b) g).isSome=true) w w') {d:Tmp}
  (hr:ak1 con.rs con.qs con.m st (.c (.ptr b off)) d y k=some r) (hK:rT w0 k r K):K (a.put (some d) (fT us)) w':=by
 obtain⟨cc,mj,Uk,dd⟩:=dd
 rw[RL]at Uk
 obtain⟨hj,cs,e,hh,hargs⟩:=Uk
 obtain⟨ps,i,pm,rs,m,qs,g⟩:=con
 dsimp only at *
 have Oc:∀g j,dq (G.hb b) g=some j→(G.own g).isSome=true:=by
  intro g j hg
  obtain⟨_,_,_,bG,_⟩:=h.bx b l0 hl0
  unfold dq at hg
  split at hg
  ·rename_i he;rw[he,bG];rfl
  ·cases hg
 unfold ak1 at hr
 split at hr
 ·rename_i _ q y b1 o1 hcv
  cases hcv
  have hpq:q=p:=by
   rcases hqs with he|⟨p',he,hn⟩
   ·cases he
   ·cases he
    rw[hp]at hn
    exact(fR hn).symm
  subst hpq
  have kc:=azo hp2 hargs
  rw[hl0]at hr
  dsimp only at hr
  generalize cW l0=fl at hr kc dd hargs
  have nil:Fr w' (fun g=>cc g=none∧(nwC G fl b g)) fl cc d 0 (0+nOf rs) [] []:=Fr.nil
  split at hr
  ·obtain⟨hc,hr⟩:=aX hr
   rw[aJ]at hc
   obtain⟨hinv,_⟩:=rV (fb:=fl) (f:=fl) h hl0 mj hK0 hj hh (fun g hg=>hg) (fun g hg=>hg) kc nil rfl
   have aER:∀g,ok g→RO G false g:=by
    rcases dS with h1|h1|h1
    ·cases h1
    ·cases h1
    ·exact h1
   have hrel:=Ci (f:=false) (bx:=(b,ex fl q.1 y.2.1)::st.bx) (bl:=[]++st.bl) hc.2 (ku (fun g hg=>I1 (cc:=cc) h (own0:=dq (G.hb b)) Oc [] (some (b,G.hb b,ex fl q.1 y.2.1)) false g ⟨hg.1,by
    rcases hg.2 with h1|h1
    ·exact h1.imp_right fun h=>⟨rfl,h.2⟩
    ·exact .inr ⟨rfl,aER g h1⟩⟩) dd)
   have h2:=hinv.put d (ir hc.1) (x5 (R:=fun _ _=>True) hrel)
   exact hK _ _ _ _ h2 hr
  ·obtain⟨hc,hr⟩:=aX hr
   rw[aJ]at hc
   obtain⟨hinv,_⟩:=rV (fb:=fl) (f:=fl) h hl0 mj hK0 hj hh (fun g hg=>hg) (fun g hg=>hg) kc nil rfl
   have hrel:=Ci (f:=fl) (bx:=(b,ex fl q.1 y.2.1)::st.bx) (bl:=[]++st.bl) hc.2 (ku (fun g hg=>I1 (cc:=cc) h (own0:=dq (G.hb b)) Oc [] (some (b,G.hb b,ex fl q.1 y.2.1)) fl g ⟨hg.1,hg.2⟩) dd)
   have h2:=hinv.put d (ir hc.1) (x5 (R:=fun _ _=>True) hrel)
   exact hK _ _ _ _ h2 hr
  ·obtain⟨hc,hr2⟩:=aX hr
   simp only[aJ]at hc
   obtain⟨⟨⟨hm,hfn⟩,hd⟩,FV⟩:=hc
   cases aN hm
   have ahy:pX w' (fun g=>cc g=none∧nwC G fl b g) cc rs y.1 0 us :=
    pX.aI7 (fun g hg=>⟨hg.1,hg.2.elim (fun h=>h) fun h=>by cases h.1⟩) dd
   obtain⟨L,hF,hcv⟩:=ab6 (id:=d) (f:=fl) FV ahy
   obtain⟨hinv,hcell⟩:=rV (fb:=fl) h hl0 mj hK0 hj hh (fun g hg=>hg) (fun g hg=>hg) kc hF hfn
   have hrel:=hcv.imp fun c v hc=>Ui hcell hc
   have h2:=hinv.put d (ir hd) (x5 (R:=fun _ _=>True) hrel)
   exact hK _ _ _ _ h2 hr2
 ·cases hr
theorem aBF {i:Nat}{os:List Operand}{o:Operand}(h:nN os i=some o):apX st i os=st.eT o:=by
 unfold apX
 rw[h]
theorem ak7 {st:St}{p:Ty×Bool}{l:List AC}{y:p.1.D}(h:imV st p (.agg l)=some y):p.2=true∧im st p.1 l=some (y,[]):=by
 obtain⟨t,b⟩:=p
 cases b with
 |false=>simp[imV]at h
 |true =>
  simp only[imV]at h
  split at h
  ·rename_i z hz
   cases h
   exact⟨rfl,hz⟩
  ·cases h
theorem aah {st:St}{pm:PM}:∀(i:Nat) (ps:List (Ty×Bool)) (os:List Operand) (x:Args ps),kb st pm i ps os=some x→∃op p y,nN os i=some op∧nN ps i=some p∧im2 st pm p op=some y
 |0,[],os,x,hi=>by cases os<;>simp[kb]at hi
 |_+1,[],os,x,hi=>by cases os<;>simp[kb]at hi
 |0,p::ps,[],x,hi=>by simp[kb]at hi
 |_+1,p::ps,[],x,hi=>by simp[kb]at hi
 |0,p::ps,o::os,x,hi=>by
  simp only[kb]at hi
  split at hi
  ·rename_i y hy
   exact⟨o,p,y,rfl,rfl,hy⟩
  ·cases hi
 |i+1,p::ps,o::os,x,hi=>by
  simp only[kb]at hi
  split at hi
  ·split at hi
   ·rename_i ys hys
    exact aah i ps os ys hys
   ·cases hi
  ·cases hi
theorem ae5:∀{l:List AC},xa l=true→∀id len,AC.own id len ∉ l
 |[],_,id,len=>by simp
 |c::l,h,id,len=>by
  cases c with
  |own i ln=>simp[xa]at h
  |_=>simp[ae5 (l:=l) h]
theorem azq {f:FuncId}{con:N4}(fz:aae P w0 f con)(h:Inv w0 G st a w){args:List Operand}{d:Tmp}{x:Args con.ps}{y:Args con.rs×Args con.qs}(hg:con.g x=some y)(hx:kb st con.pm con.i con.ps args=some x)
  (hfz:(con.pm=.cur∧(con.m=1∨con.m=2))∨∀t c v xs,c∈iq st con.pm con.i args→bN G w st.bx st.bl c v→df st t c=some xs→∀e,Rd w (RO G false) (.sl e t) xs [v])
  (hr:(match con.pm with
   |.rd=>match rdM con.m with
    |some f=>atd f con.rs st d y.1 k
    |none=>none
   |.own _=>abO con.rs con.qs con.m st (apX st con.i args) d y k
   |.box=>ak0 con.rs con.qs con.m st (apX st con.i args) d y k
   |.cur=>ak1 con.rs con.qs con.m st (apX st con.i args) d y k)=some r) (hK:rT w0 k r K) :
  Calls P f (args.map a.eval).toArray w fun e w'=>∃v,e=.returned v∧K (a.put (some d) v) w'∧∀(op:Operand) (g0:Nat),(con.pm=.box∨con.pm=.cur)→nN args con.i=some op→a.eval op=.pointer (some ⟨g0,0,none⟩)→∀k,k<w.heap.size→k≠g0→w'.heap[k]?=w.heap[k]?:=by
 have hqs:=fz.2.1
 obtain⟨op,p,y0,ho1,hp1,hy0⟩:=aah con.i con.ps args x hx
 rw[aBF ho1]at hr
 cases RL:con.pm with
 |rd =>
  have hfz:=hfz.resolve_left fun h=>by rw[RL]at h;cases h.1
  rw[RL]at hr hy0
  dsimp only at hr
  split at hr
  ·rename_i fl hm
   obtain⟨_,_,_,_,_,hin⟩:=Bc (ok:=RO G false) (nw:=fun g=>G.nw g∧(G.own g=none∨(none:Option Nat).isSome=true)) (own0:=fun _=>none) (g0:=0) h con.i con.ps args x hfz hx (fun p op y h1' h2 h3 h4=>by
    have h4:=h4 RL
    rw[RL]at h3 ⊢
    exact atA h h4 h3)
   obtain⟨o',p',e1,_,_,hin⟩:=Bc (ok:=RO G false) (nw:=fun g=>G.nw g∧(G.own g=none∨(none:Option Nat).isSome=true)) (own0:=fun _=>none) (g0:=0) h con.i con.ps args x hfz hx (fun p op y h1' h2 h3 h4=>by
    have h4:=h4 RL
    rw[RL]at h3 ⊢
    exact atA h h4 h3)
   refine Calls.mono (fz.2.2 x y hg w h.below _ _ _ 0 _ _ (Od h (own0:=fun _=>none) fun g j hj=>by cases hj) hin) fun e w' he=>?_
   obtain⟨us,rfl,dd,hB⟩:=he
   exact⟨_,rfl,aHH h (fun g hg=>hg) hm dd hB hr hK,fun _ _ hp=>by rcases hp with hp|hp<;>cases hp⟩
  ·cases hr
 |own fl =>
  have hfz:=hfz.resolve_left fun h=>by rw[RL]at h;cases h.1
  rw[RL]at hr
  dsimp only at hr
  have key:∀p op y,im2 st con.pm p op=some y→il st (pmM fl) [] (st.eT op).cells=true∧xV st [p] [st.eT op]=true∧im1 st p op=some y:=by
   intro p op y h3
   rw[RL]at h3
   simp only[im2]at h3
   split at h3
   ·rename_i hc
    rw[aJ]at hc
    exact⟨hc.1,hc.2,h3⟩
   ·cases h3
  obtain⟨o',p',e1,_,_,hin⟩:=Bc (ok:=RO G false) (nw:=fun g=>G.nw g∧(G.own g=none∨(cQ G (aU [st.eT op]) g).isSome=true)) (own0:=cQ G (aU [st.eT op])) (g0:=0) h con.i con.ps args x hfz hx (fun p' op' y h1' h2 h3 h4=>by
   obtain⟨k1,k2,k3⟩:=key p' op' y h3
   have:op'=op:=by rw[ho1]at h1';exact(fR h1').symm
   subst this
   rw[RL]
   have hE:∀g,RO G (m2 (pmM fl)) g→cQ G (aU [st.eT op']) g=none∧((G.nw g∧(G.own g=none∨(cQ G (aU [st.eT op']) g).isSome=true))∨(fl=false∧RO G false g)):=by
    intro g hg
    refine⟨by simp[cQ,hg.1],?_⟩
    rcases hg.2 with h5|h5
    ·exact .inl ⟨h5,.inl hg.1⟩
    ·refine .inr ⟨?_,hg.1,.inr ⟨rfl,h5.2⟩⟩
     cases fl with
     |false=>rfl
     |true=>cases h5.1
   obtain⟨dd,_⟩:=GR (m:=pmM fl) (by cases fl<;>simp[pmM]) hE h (aU [st.eT op']) [] [p'] [st.eT op'] [a.eval op'] (y,()) (pre:=[]) (seen:=[]) ⟨h.eT op',trivial⟩ (by simp) (fun id len hm=>by simp at hm) (by rw[gE,K0];exact k1) k2 (by
    have:imV st p' (st.eT op')=some y:=k3
    simp[A7,this])
   obtain⟨v,vs',he,hv,_⟩:=dd
   cases he
   exact hv)
  obtain⟨k1,k2,k3⟩:=key p op y0 hy0
  have:o'=op:=by rw[ho1]at e1;exact(fR e1).symm
  subst this
  refine Calls.mono (fz.2.2 x y hg w h.below _ _ _ 0 _ _ (Od h (own0:=cQ G (aU [st.eT o'])) fun g j hj=>WX hj) hin) fun e w' he=>?_
  obtain⟨us,rfl,dd,hB⟩:=he
  exact⟨_,rfl,arQ h RL (fun g hg=>hg) (h.eT o') hp1 hqs k3 k1 dd hB hr hK,fun _ _ hp=>by rcases hp with hp|hp<;>cases hp⟩
 |cur =>
  rw[RL]at hr
  dsimp only at hr
  have key:∀p op y,im2 st con.pm p op=some y→∃b l,st.eT op=.c (.ptr b 0)∧look st.bx b=some l∧xa l=true∧imV st p (.agg l)=some y:=by
   intro p op y h3
   rw[RL]at h3
   simp only[im2]at h3
   split at h3
   ·rename_i b hb
    split at h3
    ·rename_i l hl
     split at h3
     ·rename_i hno
      exact⟨b,l,hb,hl,hno,h3⟩
     ·cases h3
    ·cases h3
   ·cases h3
  obtain⟨b,l,hb,hl,hno,him⟩:=key p op y0 hy0
  have hp2:p.2=true:=(ak7 him).1
  obtain⟨cs,e,hh,bG,hrel⟩:=h.bx b l hl
  have Oc:∀g j,dq (G.hb b) g=some j→(G.own g).isSome=true:=by
   intro g j hg
   unfold dq at hg
   split at hg
   ·rename_i he;rw[he,bG];rfl
   ·cases hg
  obtain⟨ok,aNO,aJQ,hfz⟩:∃ok:Nat→Prop,(∀g,ok g→dq (G.hb b) g=none)∧(con.m=1∨con.m=2∨∀g,ok g→RO G false g)∧∀t c v xs,c∈iq st con.pm con.i args→bN G w st.bx st.bl c v→df st t c=some xs→∀e,Rd w ok (.sl e t) xs [v]:=by
   rcases hfz with ⟨_,h1⟩|h1
   ·refine⟨fun g=>∀d,G.own g≠some (.bx d),fun g hg=>qO fun he=>hg b (by rw[he,bG]),h1.elim .inl fun h=>.inr (.inl h),fun t c v xs _ hr hd=>kt h hr hd (fun id len bk _ hlk=>⟨fun g hg d hd=>?_,fun hw g hg d hd=>?_⟩) fun f e u ys _ g hg d hd=>?_⟩
    ·rw[hg.1]at hd;cases hd
    ·obtain⟨_,_,h2,_⟩:=(h.bl id bk hlk).wr hw
     rw[h2 g hg]at hd
     cases hd
    ·rw[hg.1]at hd;cases hd
   ·refine⟨RO G false,fun g hg=>qO fun he=>?_,.inr (.inr fun g hg=>hg),h1⟩
    have:=hg.1
    rw[he,bG]at this
    cases this
  obtain⟨o',p',e1,_,_,hin⟩:=Bc (ok:=ok) (nw:=nwC G (cW l) b) (own0:=dq (G.hb b)) (g0:=G.hb b) h con.i con.ps args x hfz hx (fun p' op' y h1' h2 h3 h4=>by
   have:op'=op:=by rw[ho1]at h1';exact(fR h1').symm
   subst this
   obtain⟨b',l',Cf,hl',_,aJW⟩:=key p' op' y h3
   rw[hb]at Cf
   cases Cf
   rw[hl]at hl'
   cases hl'
   rw[RL]
   have hv:a.eval op'=.pointer (some ⟨G.hb b,0,none⟩):=by
    have:=h.eT op'
    rw[hb]at this
    exact this.2
   refine⟨hv,by simp[dq],cs,e,hh,?_⟩
   have hcells:∀t c v xs,c∈l→bN G w st.bx st.bl c v→df st t c=some xs→∀e,Rd w (fun g=>dq (G.hb b) g=none∧nwC G (cW l) b g) (.sl e t) xs [v]:=by
    intro t c v xs hm hr hd
    refine kt h hr hd (fun id len bk hc _=>?_) fun f e u ys hc g hg=>?_
    ·subst hc
     exact absurd hm (ae5 hno id len)
    ·subst hc
     refine⟨qO fun he=>?_,?_⟩
     ·have:=hg.1
      rw[he,bG]at this
      cases this
     ·cases T8:cW l with
      |true =>
       have:=N9 T8 f e u ys hm
       subst this
       exact .inl ⟨hg.2.elim (fun h=>h) fun h=>(by cases h.1),.inl hg.1⟩
      |false=>exact .inr ⟨rfl,hg.1,hg.2.imp_right fun h=>⟨rfl,h.2⟩⟩
   obtain⟨vs1,vs2,e2,kc,hr2,_⟩:=N8 hcells hrel (ak7 aJW).2
   have:vs2=[]:=X6 hr2.len.symm
   subst this
   rw[gE]at e2
   rw[e2]
   exact kc)
  have:o'=op:=by rw[ho1]at e1;exact(fR e1).symm
  subst this
  have hd0:=Od h (own0:=dq (G.hb b)) Oc
  refine Calls.mono (fz.2.2 x y hg w h.below ok (nwC G (cW l) b) (dq (G.hb b)) (G.hb b) _ _ ⟨fun g hg=>.inl (hd0.mj g hg),fun g j hj=>⟨.inl (hd0.bG g j hj).1,(hd0.bG g j hj).2⟩,aNO⟩ hin) fun e w' he=>?_
  obtain⟨us,rfl,dd,hB⟩:=he
  rw[hb]at hr
  exact⟨_,rfl,aFl h RL aJQ hl hp1 hp2 hqs dd hB hr hK,fun op2 g0 _ ho2 hv k hk hne=>hB.block k hk (by
   have:op2=o':=by rw[ho1]at ho2;exact(fR ho2).symm
   subst this
   have hp:=h.eT op2
   rw[hb]at hp
   have hp:a.eval op2=.pointer (some ⟨G.hb b,0,none⟩):=hp.2
   rw[hv]at hp
   injection hp with hp
   injection hp with hp
   injection hp with hp
   rw[qO (fun e=>hne (by rw[e,hp]))]
   simp)⟩
 |box =>
  have hfz:=hfz.resolve_left fun h=>by rw[RL]at h;cases h.1
  rw[RL]at hr
  dsimp only at hr
  have key:∀p op y,im2 st con.pm p op=some y→∃b l,st.eT op=.c (.ptr b 0)∧look st.bx b=some l∧imV st p (.agg l)=some y:=by
   intro p op y h3
   rw[RL]at h3
   simp only[im2]at h3
   split at h3
   ·rename_i b hb
    split at h3
    ·rename_i l hl
     exact⟨b,l,hb,hl,h3⟩
    ·cases h3
   ·cases h3
  obtain⟨b,l,hb,hl,him⟩:=key p op y0 hy0
  have hp2:p.2=true:=(ak7 him).1
  have Oc:∀g j,dq (G.hb b) g=some j→(G.own g).isSome=true:=by
   intro g j hg
   obtain⟨_,_,_,bG,_⟩:=h.bx b l hl
   unfold dq at hg
   split at hg
   ·rename_i he;rw[he,bG];rfl
   ·cases hg
  obtain⟨o',p',e1,_,_,hin⟩:=Bc (ok:=RO G false) (nw:=fun g=>G.nw g∧(G.own g=none∨(dq (G.hb b) g).isSome=true)) (own0:=dq (G.hb b)) (g0:=G.hb b) h con.i con.ps args x hfz hx (fun p' op' y h1' h2 h3 h4=>by
   have:op'=op:=by rw[ho1]at h1';exact(fR h1').symm
   subst this
   obtain⟨b',l',Cf,hl',aJW⟩:=key p' op' y h3
   rw[hb]at Cf
   cases Cf
   rw[hl]at hl'
   cases hl'
   rw[RL]
   obtain⟨cs,e,hh,bG,hrel⟩:=h.bx b l hl
   have hv:a.eval op'=.pointer (some ⟨G.hb b,0,none⟩):=by
    have:=h.eT op'
    rw[hb]at this
    exact this.2
   refine⟨hv,by simp[dq],cs,e,hh,?_⟩
   have hcells:∀t c v xs,c∈l→bN G w st.bx st.bl c v→df st t c=some xs→∀e,Rd w (RO G false) (.sl e t) xs [v]:=by
    have aNP:∀(i:Nat) (os:List Operand),nN os i=some op'→∀c∈l,c∈iq st .box i os:=by
     intro i
     induction i with
     |zero =>
      intro os hos c hc
      cases os with
      |nil=>cases hos
      |cons o os =>
       cases hos
       simp[iq,hb,hl,hc]
     |succ i ih =>
      intro os hos c hc
      cases os with
      |nil=>cases hos
      |cons o os=>simp[iq,ih os hos c hc]
    exact fun t c v xs hm=>hfz t c v xs (by rw[RL];exact aNP con.i args h1' c hm)
   obtain⟨vs1,vs2,e2,kc,hr2,_⟩:=N8 hcells hrel (ak7 aJW).2
   have:vs2=[]:=X6 hr2.len.symm
   subst this
   rw[gE]at e2
   rw[e2]
   exact kc)
  have:o'=op:=by rw[ho1]at e1;exact(fR e1).symm
  subst this
  refine Calls.mono (fz.2.2 x y hg w h.below _ _ _ _ _ _ (Od h Oc) hin) fun e w' he=>?_
  obtain⟨us,rfl,dd,hB⟩:=he
  rw[hb]at hr
  exact⟨_,rfl,aFk h RL (fun g hg=>hg) hl hp1 hp2 hqs dd hB hr hK,fun op2 g0 _ ho2 hv k hk hne=>hB.block k hk (by
   have:op2=o':=by rw[ho1]at ho2;exact(fR ho2).symm
   subst this
   have hp:=h.eT op2
   rw[hb]at hp
   have hp:a.eval op2=.pointer (some ⟨G.hb b,0,none⟩):=hp.2
   rw[hv]at hp
   injection hp with hp
   injection hp with hp
   injection hp with hp
   rw[qO (fun e=>hne (by rw[e,hp]))]
   simp)⟩
theorem aHI {con:N4}{args:List Operand}(h:¬(con.pm=.cur∧(con.m=1∨con.m=2))):aHn st con args=iq st con.pm con.i args:=by
 unfold aHn
 split
 ·rename_i hp
  rw[hp]at h ⊢
  split
  ·exact absurd ⟨rfl,.inl (by assumption)⟩ h
  ·exact absurd ⟨rfl,.inr (by assumption)⟩ h
  ·rfl
 ·rfl
theorem acb {f:FuncId}{con:N4}(fz:aae P w0 f con)(h:Inv w0 G st a w){args:Array Operand}{ts:Array TypeId}(ho:o.op=.call {callee:=.value (.func f),args:=args,argTypes:=ts})
  (hr:abP con st o.dst args.toList k=some r) (hK:rT w0 k r K):o.wp P a w (fun a' w'=>K a' w'∧∀(op:Operand) (g0:Nat),(con.pm=.box∨con.pm=.cur)→nN args.toList con.i=some op→a.eval op=.pointer (some ⟨g0,0,none⟩)→∀k,k<w.heap.size→k≠g0→w'.heap[k]?=w.heap[k]?) Q:=by
 unfold Oper.wp
 rw[I0 fz.1 ho]
 unfold abP at hr
 dsimp only at hr
 obtain⟨G1,h1,hx1,hs1,hsd⟩:=h.freeze (aHn st con args.toList)
 split at hr
 ·rename_i x hx
  cases hg:con.g x with
  |none=>rw[hg]at hr;cases hr
  |some y =>
   rw[hg]at hr
   simp only[alx]at hr
   have hargs:(args.map a.eval)=(args.toList.map a.eval).toArray:=by rw[←abI,xR]
   show Calls P f _ w _
   rw[hargs]
   cases hd:o.dst with
   |none=>rw[hd]at hr;cases hr
   |some d =>
    rw[hd]at hr
    dsimp only at hr
    refine Calls.mono (azq fz h1 hg hx (by
     by_cases hcu:con.pm=.cur∧(con.m=1∨con.m=2)
     ·exact .inl hcu
     ·refine .inr fun t c v xs hm=>aaf h1 (nf:=false) (fun hn=>by cases hn) (fun hn=>by cases hn) t c v xs ?_
      rw[Uh hsd]at hm
      rw[aHI hcu]
      exact hm) hr hK) fun e w' he=>?_
    obtain⟨v,rfl,hk,hx⟩:=he
    exact⟨hk,hx⟩
 ·cases hr
theorem awo {f:FuncId}{con:N4}(fz:aae P w0 f con)(h:Inv w0 G st a w){args:Array Operand}{ts:Array TypeId}(ho:o.op=.call {callee:=.value (.func f),args:=args,argTypes:=ts})
  (hr:abP con st o.dst args.toList k=some r) (hK:rT w0 k r K):o.wp P a w K Q:=by
 exact Oper.wp_mono (fun _ _ h=>h.1) (acb fz h ho hr hK)
theorem azr:∀{t:Ty} {x:t.D},alB t x=true→aLd t x=x
 |.bool,x,h=>Eq.symm h
 |.int _,x,h=>(bB.1 h).symm
 |.str,_,h|.unit,_,h|.pair _ _,_,h|.sl _ _,_,h=>by cases h
theorem azs:∀{t:Ty} {x:t.D},alB t x=false→aLe t x=x
 |.bool,x,h=>Eq.symm h
 |.int _,x,_=>rfl
 |.str,_,_|.unit,_,_|.pair _ _,_,_|.sl _ _,_,_=>rfl
theorem awp {bx:List (Nat×List AC)}{bl:List (Nat×Option gq)}:∀{n:Nat} {vs:List Value},vs.length=n→(∀c∈vs,c.oneCell'=true)→cR (bN G w bx bl) (List.replicate n .any) vs
 |0,[],_,_=>trivial
 |n+1,v::vs,h,ho=>by
  rw[List.replicate_succ]
  exact⟨ho v (by simp),awp (by simpa using h) fun c hc=>ho c (by simp[hc])⟩
 |0,_::_,h,_=>by simp at h
 |_+1,[],h,_=>by simp at h
theorem awq {f:FuncId}{con:Sel}(fz:atz P w0 f con)(h:Inv w0 G st a w){args:Array Operand}{ts:Array TypeId}(ho:o.op=.call {callee:=.value (.func f),args:=args,argTypes:=ts})
  (hr:ate con st o.dst args.toList k=some r) (hK:rT w0 k r K):o.wp P a w K Q:=by
 unfold Oper.wp
 rw[I0 fz.1 ho]
 unfold ate at hr
 dsimp only at hr
 obtain⟨G1,h1,hx1,hs1,hsd⟩:=h.freeze (iq st (.own true) con.i args.toList)
 have hfz:∀t c v xs,c∈iq (st.freeze (iq st (.own true) con.i args.toList)) (.own true) con.i args.toList→bN G1 w (st.freeze (iq st (.own true) con.i args.toList)).bx (st.freeze (iq st (.own true) con.i args.toList)).bl c v→df (st.freeze (iq st (.own true) con.i args.toList)) t c=some xs→∀e,Rd w (RO G1 false) (.sl e t) xs [v] :=
  fun t c v xs hm=>aaf h1 (nf:=false) (fun hn=>by cases hn) (fun hn=>by cases hn) t c v xs (by rw[Uh hsd]at hm;exact hm)
 generalize st.freeze (iq st (.own true) con.i args.toList)=tV at hr h1 hfz
 clear hx1 hs1 hsd h
 split at hr
 ·rename_i x hx
  cases hg:con.g x with
  |none=>rw[hg]at hr;cases hr
  |some y =>
   rw[hg]at hr
   simp only[alx]at hr
   have hargs:(args.map a.eval)=(args.toList.map a.eval).toArray:=by rw[←abI,xR]
   show Calls P f _ w _
   rw[hargs]
   cases hd:o.dst with
   |none=>rw[hd]at hr;cases hr
   |some d =>
    rw[hd]at hr
    dsimp only at hr
    obtain⟨op,p,y0,ho1,hp1,hy0⟩:=aah con.i con.ps args.toList x hx
    rw[aBF ho1]at hr
    have key:∀p op y,im2 tV (.own true) p op=some y→il tV (pmM true) [] (tV.eT op).cells=true∧xV tV [p] [tV.eT op]=true∧im1 tV p op=some y:=by
     intro p op y h3
     simp only[im2]at h3
     split at h3
     ·rename_i hc
      rw[aJ]at hc
      exact⟨hc.1,hc.2,h3⟩
     ·cases h3
    obtain⟨o',p',e1,_,_,hin⟩:=Bc (ok:=RO G1 false) (nw:=fun g=>G1.nw g∧(G1.own g=none∨(cQ G1 (aU [tV.eT op]) g).isSome=true)) (own0:=cQ G1 (aU [tV.eT op])) (g0:=0) h1 con.i con.ps args.toList x hfz hx (fun p' op' y h1' h2 h3 h4=>by
     obtain⟨k1,k2,k3⟩:=key p' op' y h3
     have:op'=op:=by rw[ho1]at h1';exact(fR h1').symm
     subst this
     have hE:∀g,RO G1 (m2 (pmM true)) g→cQ G1 (aU [tV.eT op']) g=none∧((G1.nw g∧(G1.own g=none∨(cQ G1 (aU [tV.eT op']) g).isSome=true))∨(true=false∧RO G1 false g)):=by
      intro g hg
      refine⟨by simp[cQ,hg.1],?_⟩
      rcases hg.2 with h5|h5
      ·exact .inl ⟨h5,.inl hg.1⟩
      ·cases h5.1
     obtain⟨dd,_⟩:=GR (m:=pmM true) (by simp[pmM]) hE h1 (aU [tV.eT op']) [] [p'] [tV.eT op'] [a.eval op'] (y,()) (pre:=[]) (seen:=[]) ⟨h1.eT op',trivial⟩ (by simp) (fun id len hm=>by simp at hm) (by rw[gE,K0];exact k1) k2 (by
      have:imV tV p' (tV.eT op')=some y:=k3
      simp[A7,this])
     obtain⟨v,vs',he,hv,_⟩:=dd
     cases he
     exact hv)
    obtain⟨k1,k2,k3⟩:=key p op y0 hy0
    have:o'=op:=by rw[ho1]at e1;exact(fR e1).symm
    subst this
    have hpq:p=con.q:=by
     have:=fz.2.1
     rw[hp1]at this
     exact fR this
    subst hpq
    refine Calls.mono (fz.2.2 x y hg w h1.below _ _ _ 0 _ _ (Od h1 (own0:=cQ G1 (aU [tV.eT o'])) fun g j hj=>WX hj) hin) fun e w' he=>?_
    obtain⟨us,rfl,⟨va,vb,rfl,dd⟩,hB⟩:=he
    show K (a.put (some d) (fT [va,vb])) w'
    cases hdn:alB con.b.1 y.2.1 with
    |true =>
     rw[hdn]at hr dd
     rw[azr hdn]at hr
     exact arQ (con:=aJP con) (f:=true) h1 rfl (fun g hg=>hg) (h1.eT o') hp1 (.inl rfl) k3 k1 dd hB hr hK
    |false =>
     rw[hdn]at hr dd
     rw[azs hdn]at hr
     obtain⟨hc,hr⟩:=aX (show ck _ _=some r from hr)
     simp only[aJ]at hc
     obtain⟨⟨hd1,T8⟩,hfn⟩:=hc
     obtain⟨⟨cc,mj,Uk,dd⟩,atE⟩:=dd
     obtain⟨G',hinv,hrel⟩:=awm (q:=con.q) (y2:=y.2.2) (m:=2) (rs:=[con.b]) (y:=(y.2.1,())) (us:=[vb]) h1 (fun g hg=>hg) (h1.eT o') k3 k1 mj Uk dd hB T8 hfn
     refine hK _ _ _ _ (hinv.put d (ir hd1) (v:=.TO (aEI con.a::(l7 d true [con.b] (y.2.1,()) 0).1)) (u:=fT [va,vb]) ⟨#[va,vb],rfl,?_,hrel⟩) hr
     unfold aEI
     split
     ·rename_i ha
      obtain⟨vs,rfl,hl,Z6⟩:=atE ha
      exact⟨vs,rfl,awp hl Z6⟩
     ·exact trivial
 ·cases hr
end
end Go.Am
