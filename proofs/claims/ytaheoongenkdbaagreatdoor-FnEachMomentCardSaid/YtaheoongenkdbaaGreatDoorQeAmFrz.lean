/- No condition. -/
import Derived.Test.YtaheoongenkdbaaGreatDoorQeAmOrd
set_option linter.all false
namespace Go.Am
open Go.RowKit
section
variable {U:Type} {P:Program} {w0:eH} {w:World} {G:Gh} {st:St} {a:Act}
def ab4 {U V γ:Type}{R:U->V->Prop}{S:γ->V->Prop}{f:U->γ}(h:∀a b,R a b->S (f a) b):∀{l:List U} {m:List V},cg R l m->cg S (l.map f) m
 |[],[],_=>trivial|[],_::_,c=>c.elim|_::_,[],c=>c.elim|_::_,_::_,c=>⟨h _ _ c.1,ab4 h c.2⟩
def Ut {bx:List (Nat×List AC)}{d b:Nat}{f:List AC->List AC}(e:b≠d)(h:(look bx b).isSome=true):(look ((bx.filter fun p=> !Nat.beq p.1 d).map fun p=>(p.1,f p.2)) b).isSome=true:=by
 have c:look (bx.filter fun p=> !Nat.beq p.1 d) b=look bx b:=by rw[IS,af e]
 obtain⟨x,g⟩:=iR.1 h;rw[g]at c;have:∀{l:List (Nat×List AC)},look l b=some x->look (l.map fun p=>(p.1,f p.2)) b=some (f x):=by
  intro l
  induction l with
  |nil=>intro h;cases h
  |cons p l i =>
   obtain⟨k,v⟩:=p;intro h;simp only[look,sG]at h ⊢;split at h
   .cases h;rfl
   .exact i h
 rw[this c];rfl
def aD9 {b d:Nat}(h:b≠d):Nat.beq b d=false:=by
 cases c:Nat.beq b d with
 |false=>rfl|true=>exact absurd (Nat.eq_of_beq_eq_true c) h
def Inv.frz (h:Inv w0 G st a w){d:Nat}{cells:List AC}{u:Ty}{y:u.D}(qd:look st.bx d=some cells)(qe:im st u cells=some (y,[]))(qf:oy st cells=true) :
  ∃qg,Inv w0 qg ((st.freeze cells).arn d fun o=>.TI (cj cells) u y o) a w:=by
 obtain⟨j,p,qI,qK,W⟩:=Inv.freeze cells h;have qh:look (st.freeze cells).bx d=some cells:=by rw[W.bx];exact qd
 obtain⟨cs,e,qi,bm,hrel⟩:=p.bx d cells qh;have qj:im (st.freeze cells) u cells=some (y,[]):=by rw[tM W];exact qe
 obtain⟨qL,X,Y,qk,ql,_⟩:=Ok (Om p qf (nf:=cj cells) (fun qm=>qm) (bx:=[])) hrel qj;have qn:X=[]:=by
  cases X with
  |nil=>rfl|cons _ _=>exact ql.elim
 subst qn;rw[fU]at Y;subst Y;have hlt:j.hb d<w.heap.size:=(p.own _ _ bm).2.1;have hnw:j.nw (j.hb d):=p.Uc bm;refine⟨{j with own:=fun g=>if g=j.hb d then none else j.own g},?_⟩;have Z:∀{f:Bool} {g:Nat},RO j f g->RO {j with own:=fun g=>if g=j.hb d then none else j.own g} f g:=by
  intro f g r;refine⟨?_,r.2⟩;show(if g=j.hb d then none else j.own g)=none;split
  .rfl
  .exact r.1
 have B:∀{f:Bool} {t:Ty} {x:t.D} {c:List Value},Rd w (RO j f) t x c->Rd w (RO {j with own:=fun g=>if g=j.hb d then none else j.own g} f) t x c:=fun qo=>Rd.mono (bf _) (fun b _ q=>⟨Z q,rfl⟩) qo
 have H:∀(x:AC) (v:Value),bz j w (st.freeze cells).bx (st.freeze cells).bl x v ->
   bz {j with own:=fun g=>if g=j.hb d then none else j.own g} w ((st.freeze cells).arn d fun o=>.TI (cj cells) u y o).bx (st.freeze cells).bl (atf d (fun o=>.TI (cj cells) u y o) x) v:=by
  intro x v m;cases x with
  |none=>trivial|int k n=>exact m|bool b=>exact m|str s=>exact m|nil=>exact m|ro f e t xs=>exact B m|own id len=>cases len<;>exact m
  |ptr b off =>
   by_cases q:b=d
   .subst q;simp only[atf,Nat.beq_refl];refine⟨j.hb b,0,cs.toList,?_,hlt,⟨?_,.inl hnw⟩,B qk,fun i qM qp=>?_⟩
    .rw[we];exact m.2
    .show(if j.hb b=j.hb b then none else j.own (j.hb b))=none;rw[ag rfl]
    .rw[we,cell_of_row w (j.hb b) i cs e (0,0) qi,<-Array.getElem?_toList];exact qp
   .simp only[atf,aD9 q];exact⟨Ut q m.1,m.2⟩
  |fnp g b =>
   by_cases q:b=d
   .subst q;simp only[atf,Nat.beq_refl];trivial
   .simp only[atf,aD9 q];exact⟨Ut q m.1,m.2⟩
  |Be id i off=>exact m|any=>exact m
  |TI f t x off =>
   obtain⟨b,o,c,qq,qt,qu,qv,qw⟩:=m;exact⟨b,o,c,qq,qt,Z qu,B qv,qw⟩
 have qa:∀(x:CV) (v:Value),en j w (st.freeze cells).bx (st.freeze cells).bl x v ->
   en {j with own:=fun g=>if g=j.hb d then none else j.own g} w ((st.freeze cells).arn d fun o=>.TI (cj cells) u y o).bx (st.freeze cells).bl (aDO d (fun o=>.TI (cj cells) u y o) x) v:=by
  intro x v m;cases x with
  |c x=>exact H x v m
  |agg l =>
   obtain⟨I,rfl,K⟩:=m;exact⟨I,rfl,ab4 H K⟩
 have qb:∀(x:AV) (v:Value),iy j w (st.freeze cells).bx (st.freeze cells).bl x v ->
   iy {j with own:=fun g=>if g=j.hb d then none else j.own g} w ((st.freeze cells).arn d fun o=>.TI (cj cells) u y o).bx (st.freeze cells).bl (aAH d (fun o=>.TI (cj cells) u y o) x) v:=by
  intro x v m;cases x with
  |v x=>exact qa x v m
  |TV l =>
   obtain⟨I,rfl,K⟩:=m;exact⟨I,rfl,ab4 qa K⟩
 have qx:∀{g:Nat} {k:Key},(if g=j.hb d then none else j.own g)=some k->g≠j.hb d/\j.own g=some k:=by
  intro g k r;split at r
  .cases r
  .rename_i C;exact⟨C,r⟩
 refine⟨p.nw,p.rok,p.below,p.defers,p.size,qb _ _ p.sp,fun g b o qy=>?_,fun t v m=>?_,fun D l qz=>?_,fun id b q=>?_,fun g k r=>?_⟩
 .obtain⟨E,L,z⟩:=p.hd g b o qy;refine⟨?_,L,z⟩;show(if g=j.hb d then none else j.own g)=aAJ b;by_cases M:g=j.hb d
  .rw[ag M];rw[M,bm]at E;cases b<;>cases E
  .rw[af M];exact E
 .obtain⟨x,A,rfl⟩:=W7 (aAH d fun o=>.TI (cj cells) u y o) m;exact qb _ _ (p.tm t x A)
 .obtain⟨x,A,rfl⟩:=W7 (fun l:List AC=>l.map (atf d fun o=>.TI (cj cells) u y o)) qz;rw[IS]at A;split at A
  .cases A
  .rename_i C;obtain⟨N,qA,O,F,Q⟩:=p.bx D x A;refine⟨N,qA,O,?_,ab4 H Q⟩;show(if j.hb D=j.hb d then none else j.own (j.hb D))=some (.bx D);rw[af (fun R=>?_)]
   .exact F
   .rw[R,bm]at F;cases F;exact C rfl
 .have S:=p.bl id b q;refine⟨fun T=>?_,fun T=>B (S.rd T),S.pos⟩;obtain⟨N,O,F,Q⟩:=S.wr T;refine⟨N,O,fun g r=>?_,fun qB x qC=>?_⟩
  .show(if g=j.hb d then none else j.own g)=some (.bl id);have:=F g r;rw[af (fun R=>?_)]
   .exact this
   .rw[R,bm]at this;cases this
  .obtain⟨qD,qE,qF⟩:=Q qB x qC;exact⟨qD,B qE,qF⟩
 .obtain⟨C,qG⟩:=qx r;obtain⟨E,L,z⟩:=p.own g k qG;refine⟨E,L,?_⟩;cases k with
  |bx D =>
   refine⟨Ut (fun qH=>C ?_) z.1,z.2⟩;rw[z.2,qH]
  |bl id=>exact z|hid=>trivial
def aEa (st:St)(d:Nat)(c:Nat->AC):(st.arn d c).nt=st.nt:=rfl
def awi {r:U}:∀{l:List (Tmp×TypeId×Ty)} {G:Gh} {st:St} {k:St->Option U},Inv w0 G st a w->aF8 l st k=some r->∃c cy,Inv w0 c cy a w/\cy.nt=st.nt/\k cy=some r
 |[],G,st,k,h,b=>⟨G,st,h,rfl,b⟩|(d,e,u)::l,G,st,k,h,b=>by
  unfold aF8 aDP at b;split at b
  .rename_i cells f;split at b
   .rename_i y g;obtain⟨i,b⟩:=aU b;obtain⟨c,j⟩:=h.frz f g i;obtain⟨m,n,o,p,q⟩:=awi j b;exact⟨m,n,o,by rw[p,aEa,(Ft cells st).nt],q⟩
   .cases b
  .cases b
end
end Go.Am
