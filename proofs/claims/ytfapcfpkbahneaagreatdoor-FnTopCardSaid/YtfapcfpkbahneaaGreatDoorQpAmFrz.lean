/- No condition. -/
import Derived.Test.YtfapcfpkbahneaaGreatDoorQpAmOrd
set_option linter.all false
namespace Go.Am
open Go.RowKit
section
variable {U:Type} {P:Program} {w0:fR} {w:World} {G:Gh} {st:St} {a:Act}
def adi {U V γ:Type}{R:U->V->Prop}{S:γ->V->Prop}{f:U->γ}(h:∀a b,R a b->S (f a) b):∀{l:List U} {m:List V},cT R l m->cT S (l.map f) m
 |[],[],_=>trivial|[],_::_,h'=>h'.elim|_::_,[],h'=>h'.elim|_::_,_::_,h'=>⟨h _ _ h'.1,adi h h'.2⟩
def Vw {bx:List (Nat×List AC)}{d b:Nat}{f:List AC->List AC}(hb:b≠d)(h:(look bx b).isSome=true):(look ((bx.filter fun p=> !Nat.beq p.1 d).map fun p=>(p.1,f p.2)) b).isSome=true:=by
 have h1:look (bx.filter fun p=> !Nat.beq p.1 d) b=look bx b:=by rw[I9,ah hb]
 obtain⟨x,hx⟩:=mA.1 h;rw[hx]at h1;have:∀{l:List (Nat×List AC)},look l b=some x->look (l.map fun p=>(p.1,f p.2)) b=some (f x):=by
  intro l
  induction l with
  |nil=>intro h;cases h
  |cons p l ih =>
   obtain⟨k,v⟩:=p;intro h;simp only[look,tW]at h ⊢;split at h
   .cases h;rfl
   .exact ih h
 rw[this h1];rfl
def aHx {b d:Nat}(h:b≠d):Nat.beq b d=false:=by
 cases hq:Nat.beq b d with
 |false=>rfl|true=>exact absurd (Nat.eq_of_beq_eq_true hq) h
def Inv.frz (h:Inv w0 G st a w){d:Nat}{cells:List AC}{u:Ty}{y:u.D}(hl:look st.bx d=some cells)(hi:im st u cells=some (y,[]))(ho:p7 st cells=true) :
  ∃G',Inv w0 G' ((st.freeze cells).atc d fun o=>.UA (cZ cells) u y o) a w:=by
 obtain⟨G1,h1,hx,hs,hsd⟩:=Inv.freeze cells h;have hl1:look (st.freeze cells).bx d=some cells:=by rw[hsd.bx];exact hl
 obtain⟨cs,e,aOk,bK,hrel⟩:=h1.bx d cells hl1;have hi1:im (st.freeze cells) u cells=some (y,[]):=by rw[vd hsd];exact hi
 obtain⟨vs1,vs2,hvs,kz,hr2,_⟩:=OV (OX h1 ho (nf:=cZ cells) (fun hn=>hn) (bx:=[])) hrel hi1;have aQr:vs2=[]:=by
  cases vs2 with
  |nil=>rfl|cons _ _=>exact hr2.elim
 subst aQr;rw[iz]at hvs;subst hvs;have hlt:G1.hb d<w.heap.size:=(h1.own _ _ bK).2.1;have hnw:G1.nw (G1.hb d):=h1.U9 bK;refine⟨{G1 with own:=fun g=>if g=G1.hb d then none else G1.own g},?_⟩;have hro:∀{f:Bool} {g:Nat},RO G1 f g->RO {G1 with own:=fun g=>if g=G1.hb d then none else G1.own g} f g:=by
  intro f g hg;refine⟨?_,hg.2⟩;show(if g=G1.hb d then none else G1.own g)=none;split
  .rfl
  .exact hg.1
 have aHy:∀{f:Bool} {t:Ty} {x:t.D} {c:List Value},Rd w (RO G1 f) t x c->Rd w (RO {G1 with own:=fun g=>if g=G1.hb d then none else G1.own g} f) t x c:=fun hr=>Rd.mono (bZ _) (fun b _ hb=>⟨hro hb,rfl⟩) hr
 have hC:∀(x:AC) (v:Value),bS G1 w (st.freeze cells).bx (st.freeze cells).bl x v ->
   bS {G1 with own:=fun g=>if g=G1.hb d then none else G1.own g} w ((st.freeze cells).atc d fun o=>.UA (cZ cells) u y o).bx (st.freeze cells).bl (ava d (fun o=>.UA (cZ cells) u y o) x) v:=by
  intro x v hv;cases x with
  |none=>trivial|int k n=>exact hv|bool b=>exact hv|str s=>exact hv|nil=>exact hv|ro f e t xs=>exact aHy hv|own id len=>cases len<;>exact hv
  |ptr b off =>
   by_cases hb:b=d
   .subst hb;simp only[ava,Nat.beq_refl];refine⟨G1.hb b,0,cs.toList,?_,hlt,⟨?_,.inl hnw⟩,aHy kz,fun i v' hv'=>?_⟩
    .rw[xK];exact hv.2
    .show(if G1.hb b=G1.hb b then none else G1.own (G1.hb b))=none;rw[ai rfl]
    .rw[xK,cell_of_row w (G1.hb b) i cs e (0,0) aOk,<-Array.getElem?_toList];exact hv'
   .simp only[ava,aHx hb];exact⟨Vw hb hv.1,hv.2⟩
  |fnp g b =>
   by_cases hb:b=d
   .subst hb;simp only[ava,Nat.beq_refl];trivial
   .simp only[ava,aHx hb];exact⟨Vw hb hv.1,hv.2⟩
  |LI id i off=>exact hv|any=>exact hv
  |UA f t x off =>
   obtain⟨b,o,c,e1,e2,e3,e4,e5⟩:=hv;exact⟨b,o,c,e1,e2,hro e3,aHy e4,e5⟩
 have hCV:∀(x:CV) (v:Value),fv G1 w (st.freeze cells).bx (st.freeze cells).bl x v ->
   fv {G1 with own:=fun g=>if g=G1.hb d then none else G1.own g} w ((st.freeze cells).atc d fun o=>.UA (cZ cells) u y o).bx (st.freeze cells).bl (aGL d (fun o=>.UA (cZ cells) u y o) x) v:=by
  intro x v hv;cases x with
  |c x=>exact hC x v hv
  |agg l =>
   obtain⟨ds,rfl,h2⟩:=hv;exact⟨ds,rfl,adi hC h2⟩
 have hAV:∀(x:AV) (v:Value),kf G1 w (st.freeze cells).bx (st.freeze cells).bl x v ->
   kf {G1 with own:=fun g=>if g=G1.hb d then none else G1.own g} w ((st.freeze cells).atc d fun o=>.UA (cZ cells) u y o).bx (st.freeze cells).bl (aDd d (fun o=>.UA (cZ cells) u y o) x) v:=by
  intro x v hv;cases x with
  |v x=>exact hCV x v hv
  |UO l =>
   obtain⟨ds,rfl,h2⟩:=hv;exact⟨ds,rfl,adi hCV h2⟩
 have aOl:∀{g:Nat} {k:Key},(if g=G1.hb d then none else G1.own g)=some k->g≠G1.hb d/\G1.own g=some k:=by
  intro g k hg;split at hg
  .cases hg
  .rename_i hne;exact⟨hne,hg⟩
 refine⟨h1.nw,h1.rok,h1.below,h1.defers,h1.size,hAV _ _ h1.sp,fun g b o hm=>?_,fun t v hv=>?_,fun d' l hl'=>?_,fun id b hb=>?_,fun g k hg=>?_⟩
 .obtain⟨q1,q2,q3⟩:=h1.hd g b o hm;refine⟨?_,q2,q3⟩;show(if g=G1.hb d then none else G1.own g)=aDf b;by_cases hgd:g=G1.hb d
  .rw[ai hgd];rw[hgd,bK]at q1;cases b<;>cases q1
  .rw[ah hgd];exact q1
 .obtain⟨x,hx1,rfl⟩:=X7 (aDd d fun o=>.UA (cZ cells) u y o) hv;exact hAV _ _ (h1.tm t x hx1)
 .obtain⟨x,hx1,rfl⟩:=X7 (fun l:List AC=>l.map (ava d fun o=>.UA (cZ cells) u y o)) hl';rw[I9]at hx1;split at hx1
  .cases hx1
  .rename_i hne;obtain⟨cs',e',r1,r2,r3⟩:=h1.bx d' x hx1;refine⟨cs',e',r1,?_,adi hC r3⟩;show(if G1.hb d'=G1.hb d then none else G1.own (G1.hb d'))=some (.bx d');rw[ah (fun heq=>?_)]
   .exact r2
   .rw[heq,bK]at r2;cases r2;exact hne rfl
 .have hb1:=h1.bl id b hb;refine⟨fun hw=>?_,fun hw=>aHy (hb1.rd hw),hb1.pos⟩;obtain⟨cs',r1,r2,r3⟩:=hb1.wr hw;refine⟨cs',r1,fun g hg=>?_,fun j x hj=>?_⟩
  .show(if g=G1.hb d then none else G1.own g)=some (.bl id);have:=r2 g hg;rw[ah (fun heq=>?_)]
   .exact this
   .rw[heq,bK]at this;cases this
  .obtain⟨c',s1,s2⟩:=r3 j x hj;exact⟨c',aHy s1,s2⟩
 .obtain⟨hne,hg1⟩:=aOl hg;obtain⟨q1,q2,q3⟩:=h1.own g k hg1;refine⟨q1,q2,?_⟩;cases k with
  |bx d' =>
   refine⟨Vw (fun hd=>hne ?_) q3.1,q3.2⟩;rw[q3.2,hd]
  |bl id=>exact q3|hid=>trivial
def aHz (st:St)(d:Nat)(c:Nat->AC):(st.atc d c).nt=st.nt:=rfl
def aym {r:U}:∀{l:List (Tmp×TypeId×Ty)} {G:Gh} {st:St} {k:St->Option U},Inv w0 G st a w->aJF l st k=some r->∃G' dV,Inv w0 G' dV a w/\dV.nt=st.nt/\k dV=some r
 |[],G,st,k,h,hr=>⟨G,st,h,rfl,hr⟩|(d,e,u)::l,G,st,k,h,hr=>by
  unfold aJF aGM at hr;split at hr
  .rename_i cells hl;split at hr
   .rename_i y hi;obtain⟨ho,hr⟩:=aY hr;obtain⟨G',h'⟩:=h.frz hl hi ho;obtain⟨G2,st2,h2,hn,hr2⟩:=aym h' hr;exact⟨G2,st2,h2,by rw[hn,aHz,(FB cells st).nt],hr2⟩
   .cases hr
  .cases hr
end
end Go.Am
