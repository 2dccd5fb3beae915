/- Lemmas for the claim. No condition. -/
import Derived.Test.YtfapcfpkbahneaaGreatDoorQtAmOrd
set_option linter.all false
namespace Go.Am
open Go.RowKit
section
variable {α:Type} {P:Program} {w0:fJ} {w:World} {G:Gh} {st:St} {a:Act}
theorem acR {α β γ:Type}{R:α->β->Prop}{S:γ->β->Prop}{f:α->γ}(h:∀a b,R a b->S (f a) b):∀{l:List α} {m:List β},cT R l m->cT S (l.map f) m
 |[],[],_=>trivial
 |[],_::_,h'=>h'.elim
 |_::_,[],h'=>h'.elim
 |_::_,_::_,h'=>⟨h _ _ h'.1,acR h h'.2⟩
theorem UX {bx:List (Nat×List AC)}{d b:Nat}{f:List AC->List AC}(hb:b≠d)(h:(look bx b).isSome=true):(look ((bx.filter fun p=> !Nat.beq p.1 d).map fun p=>(p.1,f p.2)) b).isSome=true:=by
 have h1:look (bx.filter fun p=> !Nat.beq p.1 d) b=look bx b:=by rw[IQ,ah hb]
 obtain⟨x,hx⟩:=mj.1 h;rw[hx]at h1;have:∀{l:List (Nat×List AC)},look l b=some x->look (l.map fun p=>(p.1,f p.2)) b=some (f x):=by
  intro l
  induction l with
  |nil=>intro h;cases h
  |cons p l ih =>
   obtain⟨k,v⟩:=p;intro h;simp only[look,uh]at h ⊢;split at h
   ·cases h;rfl
   ·exact ih h
 rw[this h1];rfl
theorem aFT {b d:Nat}(h:b≠d):Nat.beq b d=false:=by
 cases hq:Nat.beq b d with
 |false=>rfl
 |true=>exact absurd (Nat.eq_of_beq_eq_true hq) h
theorem Inv.frz (h:Inv w0 G st a w){d:Nat}{cells:List AC}{u:Ty}{y:u.D}(hl:look st.bx d=some cells)(hi:im st u cells=some (y,[]))(ho:pY st cells=true) :
  ∃G',Inv w0 G' ((st.freeze cells).ar8 d fun o=>.T5 (cV cells) u y o) a w:=by
 obtain⟨G1,h1,hx,hs,hsd⟩:=Inv.freeze cells h;have hl1:look (st.freeze cells).bx d=some cells:=by rw[hsd.bx];exact hl
 obtain⟨cs,e,aMe,bH,hrel⟩:=h1.bx d cells hl1;have hi1:im (st.freeze cells) u cells=some (y,[]):=by rw[uS hsd];exact hi
 obtain⟨vs1,vs2,hvs,kt,hr2,_⟩:=OI (OK h1 ho (nf:=cV cells) (fun hn=>hn) (bx:=[])) hrel hi1;have aOk:vs2=[]:=by
  cases vs2 with
  |nil=>rfl
  |cons _ _=>exact hr2.elim
 subst aOk;rw[ie]at hvs;subst hvs;have hlt:G1.hb d<w.heap.size:=(h1.own _ _ bH).2.1;have hnw:G1.nw (G1.hb d):=h1.Uz bH;refine⟨{G1 with own:=fun g=>if g=G1.hb d then none else G1.own g},?_⟩;have hro:∀{f:Bool} {g:Nat},RO G1 f g->RO {G1 with own:=fun g=>if g=G1.hb d then none else G1.own g} f g:=by
  intro f g hg;refine⟨?_,hg.2⟩;show(if g=G1.hb d then none else G1.own g)=none;split
  ·rfl
  ·exact hg.1
 have aFU:∀{f:Bool} {t:Ty} {x:t.D} {c:List Value},Rd w (RO G1 f) t x c->Rd w (RO {G1 with own:=fun g=>if g=G1.hb d then none else G1.own g} f) t x c:=fun hr=>Rd.mono (cp _) (fun b _ hb=>⟨hro hb,rfl⟩) hr
 have hC:∀(x:AC) (v:Value),bN G1 w (st.freeze cells).bx (st.freeze cells).bl x v ->
   bN {G1 with own:=fun g=>if g=G1.hb d then none else G1.own g} w ((st.freeze cells).ar8 d fun o=>.T5 (cV cells) u y o).bx (st.freeze cells).bl (atT d (fun o=>.T5 (cV cells) u y o) x) v:=by
  intro x v hv;cases x with
  |none=>trivial
  |int k n=>exact hv
  |bool b=>exact hv
  |str s=>exact hv
  |nil=>exact hv
  |ro f e t xs=>exact aFU hv
  |own id len=>cases len<;>exact hv
  |ptr b off =>
   by_cases hb:b=d
   ·subst hb;simp only[atT,Nat.beq_refl];refine⟨G1.hb b,0,cs.toList,?_,hlt,⟨?_,.inl hnw⟩,aFU kt,fun i v' hv'=>?_⟩
    ·rw[xf];exact hv.2
    ·show(if G1.hb b=G1.hb b then none else G1.own (G1.hb b))=none;rw[ak rfl]
    ·rw[xf,cell_of_row w (G1.hb b) i cs e (0,0) aMe,<-Array.getElem?_toList];exact hv'
   ·simp only[atT,aFT hb];exact⟨UX hb hv.1,hv.2⟩
  |fnp g b =>
   by_cases hb:b=d
   ·subst hb;simp only[atT,Nat.beq_refl];trivial
   ·simp only[atT,aFT hb];exact⟨UX hb hv.1,hv.2⟩
  |Ln id i off=>exact hv
  |any=>exact hv
  |T5 f t x off =>
   obtain⟨b,o,c,e1,e2,e3,e4,e5⟩:=hv;exact⟨b,o,c,e1,e2,hro e3,aFU e4,e5⟩
 have hCV:∀(x:CV) (v:Value),fh G1 w (st.freeze cells).bx (st.freeze cells).bl x v ->
   fh {G1 with own:=fun g=>if g=G1.hb d then none else G1.own g} w ((st.freeze cells).ar8 d fun o=>.T5 (cV cells) u y o).bx (st.freeze cells).bl (aE8 d (fun o=>.T5 (cV cells) u y o) x) v:=by
  intro x v hv;cases x with
  |c x=>exact hC x v hv
  |agg l =>
   obtain⟨ds,rfl,h2⟩:=hv;exact⟨ds,rfl,acR hC h2⟩
 have hAV:∀(x:AV) (v:Value),j2 G1 w (st.freeze cells).bx (st.freeze cells).bl x v ->
   j2 {G1 with own:=fun g=>if g=G1.hb d then none else G1.own g} w ((st.freeze cells).ar8 d fun o=>.T5 (cV cells) u y o).bx (st.freeze cells).bl (aBL d (fun o=>.T5 (cV cells) u y o) x) v:=by
  intro x v hv;cases x with
  |v x=>exact hCV x v hv
  |Ul l =>
   obtain⟨ds,rfl,h2⟩:=hv;exact⟨ds,rfl,acR hCV h2⟩
 have aMf:∀{g:Nat} {k:Key},(if g=G1.hb d then none else G1.own g)=some k->g≠G1.hb d/\G1.own g=some k:=by
  intro g k hg;split at hg
  ·cases hg
  ·rename_i hne;exact⟨hne,hg⟩
 refine⟨h1.nw,h1.rok,h1.below,h1.defers,h1.size,hAV _ _ h1.sp,fun g b o hm=>?_,fun t v hv=>?_,fun d' l hl'=>?_,fun id b hb=>?_,fun g k hg=>?_⟩
 ·obtain⟨q1,q2,q3⟩:=h1.hd g b o hm;refine⟨?_,q2,q3⟩;show(if g=G1.hb d then none else G1.own g)=aBN b;by_cases hgd:g=G1.hb d
  ·rw[ak hgd];rw[hgd,bH]at q1;cases b<;>cases q1
  ·rw[ah hgd];exact q1
 ·obtain⟨x,hx1,rfl⟩:=Xx (aBL d fun o=>.T5 (cV cells) u y o) hv;exact hAV _ _ (h1.tm t x hx1)
 ·obtain⟨x,hx1,rfl⟩:=Xx (fun l:List AC=>l.map (atT d fun o=>.T5 (cV cells) u y o)) hl';rw[IQ]at hx1;split at hx1
  ·cases hx1
  ·rename_i hne;obtain⟨cs',e',r1,r2,r3⟩:=h1.bx d' x hx1;refine⟨cs',e',r1,?_,acR hC r3⟩;show(if G1.hb d'=G1.hb d then none else G1.own (G1.hb d'))=some (.bx d');rw[ah (fun heq=>?_)]
   ·exact r2
   ·rw[heq,bH]at r2;cases r2;exact hne rfl
 ·have hb1:=h1.bl id b hb;refine⟨fun hw=>?_,fun hw=>aFU (hb1.rd hw),hb1.pos⟩;obtain⟨cs',r1,r2,r3⟩:=hb1.wr hw;refine⟨cs',r1,fun g hg=>?_,fun j x hj=>?_⟩
  ·show(if g=G1.hb d then none else G1.own g)=some (.bl id);have:=r2 g hg;rw[ah (fun heq=>?_)]
   ·exact this
   ·rw[heq,bH]at this;cases this
  ·obtain⟨c',s1,s2⟩:=r3 j x hj;exact⟨c',aFU s1,s2⟩
 ·obtain⟨hne,hg1⟩:=aMf hg;obtain⟨q1,q2,q3⟩:=h1.own g k hg1;refine⟨q1,q2,?_⟩;cases k with
  |bx d' =>
   refine⟨UX (fun hd=>hne ?_) q3.1,q3.2⟩;rw[q3.2,hd]
  |bl id=>exact q3
  |hid=>trivial
theorem aFV (st:St)(d:Nat)(c:Nat->AC):(st.ar8 d c).nt=st.nt:=rfl
theorem aw6 {r:α}:∀{l:List (Tmp×TypeId×Ty)} {G:Gh} {st:St} {k:St->Option α},Inv w0 G st a w->aHN l st k=some r->∃G' dK,Inv w0 G' dK a w/\dK.nt=st.nt/\k dK=some r
 |[],G,st,k,h,hr=>⟨G,st,h,rfl,hr⟩
 |(d,e,u)::l,G,st,k,h,hr=>by
  unfold aHN aE9 at hr;split at hr
  ·rename_i cells hl;split at hr
   ·rename_i y hi;obtain⟨ho,hr⟩:=aY hr;obtain⟨G',h'⟩:=h.frz hl hi ho;obtain⟨G2,st2,h2,hn,hr2⟩:=aw6 h' hr;exact⟨G2,st2,h2,by rw[hn,aFV,(Fh cells st).nt],hr2⟩
   ·cases hr
  ·cases hr
end
end Go.Am
