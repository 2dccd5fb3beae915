/- No condition. -/
import Derived.Test.YtaheoongenkdbaaGreatDoorQsAmOrd
set_option linter.all false
namespace Go.Am
open Go.RowKit
section
variable {U:Type} {P:Program} {w0:eA} {w:World} {G:Gh} {st:St} {a:Act}
def aaK {U V γ:Type}{R:U->V->Prop}{S:γ->V->Prop}{f:U->γ}(h:∀a b,R a b->S (f a) b):∀{l:List U} {m:List V},b6 R l m->b6 S (l.map f) m
 |[],[],_=>trivial|[],_::_,c=>c.elim|_::_,[],c=>c.elim|_::_,_::_,c=>⟨h _ _ c.1,aaK h c.2⟩
def Th {bx:List (Nat×List AC)}{d b:Nat}{f:List AC->List AC}(e:b≠d)(h:(look bx b).isSome=true):(look ((bx.filter fun p=> !Nat.beq p.1 d).map fun p=>(p.1,f p.2)) b).isSome=true:=by
 have c:look (bx.filter fun p=> !Nat.beq p.1 d) b=look bx b:=by rw[HL,af e]
 obtain⟨x,g⟩:=ij.1 h;rw[g]at c;have:∀{l:List (Nat×List AC)},look l b=some x->look (l.map fun p=>(p.1,f p.2)) b=some (f x):=by
  intro l
  induction l with
  |nil=>intro h;cases h
  |cons p l i =>
   obtain⟨k,v⟩:=p;intro h;simp only[look,r8]at h ⊢;split at h
   .cases h;rfl
   .exact i h
 rw[this c];rfl
def aA4 {b d:Nat}(h:b≠d):Nat.beq b d=false:=by
 cases c:Nat.beq b d with
 |false=>rfl|true=>exact absurd (Nat.eq_of_beq_eq_true c) h
def Inv.frz (h:Inv w0 G st a w){d:Nat}{cells:List AC}{u:Ty}{y:u.D}(qd:look st.bx d=some cells)(hi:im st u cells=some (y,[]))(qe:nN st cells=true) :
  ∃qf,Inv w0 qf ((st.freeze cells).ape d fun o=>.Sx (ca cells) u y o) a w:=by
 obtain⟨j,p,qH,qI,W⟩:=Inv.freeze cells h;have qg:look (st.freeze cells).bx d=some cells:=by rw[W.bx];exact qd
 obtain⟨cs,e,qh,bd,hrel⟩:=p.bx d cells qg;have qi:im (st.freeze cells) u cells=some (y,[]):=by rw[sL W];exact hi
 obtain⟨qK,X,Y,qj,qk,_⟩:=Nj (Nl p qe (nf:=ca cells) (fun ql=>ql) (bx:=[])) hrel qi;have qm:X=[]:=by
  cases X with
  |nil=>rfl|cons _ _=>exact qk.elim
 subst qm;rw[fS]at Y;subst Y;have hlt:j.hb d<w.heap.size:=(p.own _ _ bd).2.1;have hnw:j.nw (j.hb d):=p.S1 bd;refine⟨{j with own:=fun g=>if g=j.hb d then none else j.own g},?_⟩;have Z:∀{f:Bool} {g:Nat},RO j f g->RO {j with own:=fun g=>if g=j.hb d then none else j.own g} f g:=by
  intro f g r;refine⟨?_,r.2⟩;show(if g=j.hb d then none else j.own g)=none;split
  .rfl
  .exact r.1
 have B:∀{f:Bool} {t:Ty} {x:t.D} {c:List Value},Rd w (RO j f) t x c->Rd w (RO {j with own:=fun g=>if g=j.hb d then none else j.own g} f) t x c:=fun qn=>Rd.mono (bP _) (fun b _ q=>⟨Z q,rfl⟩) qn
 have H:∀(x:AC) (v:Value),bm j w (st.freeze cells).bx (st.freeze cells).bl x v ->
   bm {j with own:=fun g=>if g=j.hb d then none else j.own g} w ((st.freeze cells).ape d fun o=>.Sx (ca cells) u y o).bx (st.freeze cells).bl (aqT d (fun o=>.Sx (ca cells) u y o) x) v:=by
  intro x v m;cases x with
  |none=>trivial|int k n=>exact m|bool b=>exact m|str s=>exact m|nil=>exact m|ro f e t xs=>exact B m|own id len=>cases len<;>exact m
  |ptr b off =>
   by_cases q:b=d
   .subst q;simp only[aqT,Nat.beq_refl];refine⟨j.hb b,0,cs.toList,?_,hlt,⟨?_,.inl hnw⟩,B qj,fun i qL qo=>?_⟩
    .rw[vd];exact m.2
    .show(if j.hb b=j.hb b then none else j.own (j.hb b))=none;rw[ah rfl]
    .rw[vd,cell_of_row w (j.hb b) i cs e (0,0) qh,<-Array.getElem?_toList];exact qo
   .simp only[aqT,aA4 q];exact⟨Th q m.1,m.2⟩
  |fnp g b =>
   by_cases q:b=d
   .subst q;simp only[aqT,Nat.beq_refl];trivial
   .simp only[aqT,aA4 q];exact⟨Th q m.1,m.2⟩
  |Ak id i off=>exact m|any=>exact m
  |Sx f t x off =>
   obtain⟨b,o,c,qp,qq,qt,qu,qv⟩:=m;exact⟨b,o,c,qp,qq,Z qt,B qu,qv⟩
 have qa:∀(x:CV) (v:Value),ei j w (st.freeze cells).bx (st.freeze cells).bl x v ->
   ei {j with own:=fun g=>if g=j.hb d then none else j.own g} w ((st.freeze cells).ape d fun o=>.Sx (ca cells) u y o).bx (st.freeze cells).bl (aAJ d (fun o=>.Sx (ca cells) u y o) x) v:=by
  intro x v m;cases x with
  |c x=>exact H x v m
  |agg l =>
   obtain⟨I,rfl,K⟩:=m;exact⟨I,rfl,aaK H K⟩
 have qb:∀(x:AV) (v:Value),hI j w (st.freeze cells).bx (st.freeze cells).bl x v ->
   hI {j with own:=fun g=>if g=j.hb d then none else j.own g} w ((st.freeze cells).ape d fun o=>.Sx (ca cells) u y o).bx (st.freeze cells).bl (axT d (fun o=>.Sx (ca cells) u y o) x) v:=by
  intro x v m;cases x with
  |v x=>exact qa x v m
  |SL l =>
   obtain⟨I,rfl,K⟩:=m;exact⟨I,rfl,aaK qa K⟩
 have qw:∀{g:Nat} {k:Key},(if g=j.hb d then none else j.own g)=some k->g≠j.hb d/\j.own g=some k:=by
  intro g k r;split at r
  .cases r
  .rename_i C;exact⟨C,r⟩
 refine⟨p.nw,p.rok,p.below,p.defers,p.size,qb _ _ p.sp,fun g b o qx=>?_,fun t v m=>?_,fun D l qy=>?_,fun id b q=>?_,fun g k r=>?_⟩
 .obtain⟨E,L,z⟩:=p.hd g b o qx;refine⟨?_,L,z⟩;show(if g=j.hb d then none else j.own g)=axV b;by_cases M:g=j.hb d
  .rw[ah M];rw[M,bd]at E;cases b<;>cases E
  .rw[af M];exact E
 .obtain⟨x,A,rfl⟩:=VK (axT d fun o=>.Sx (ca cells) u y o) m;exact qb _ _ (p.tm t x A)
 .obtain⟨x,A,rfl⟩:=VK (fun l:List AC=>l.map (aqT d fun o=>.Sx (ca cells) u y o)) qy;rw[HL]at A;split at A
  .cases A
  .rename_i C;obtain⟨N,qz,O,F,Q⟩:=p.bx D x A;refine⟨N,qz,O,?_,aaK H Q⟩;show(if j.hb D=j.hb d then none else j.own (j.hb D))=some (.bx D);rw[af (fun R=>?_)]
   .exact F
   .rw[R,bd]at F;cases F;exact C rfl
 .have S:=p.bl id b q;refine⟨fun T=>?_,fun T=>B (S.rd T),S.pos⟩;obtain⟨N,O,F,Q⟩:=S.wr T;refine⟨N,O,fun g r=>?_,fun qA x qB=>?_⟩
  .show(if g=j.hb d then none else j.own g)=some (.bl id);have:=F g r;rw[af (fun R=>?_)]
   .exact this
   .rw[R,bd]at this;cases this
  .obtain⟨qC,qD,qE⟩:=Q qA x qB;exact⟨qC,B qD,qE⟩
 .obtain⟨C,qF⟩:=qw r;obtain⟨E,L,z⟩:=p.own g k qF;refine⟨E,L,?_⟩;cases k with
  |bx D =>
   refine⟨Th (fun qG=>C ?_) z.1,z.2⟩;rw[z.2,qG]
  |bl id=>exact z|hid=>trivial
def aA5 (st:St)(d:Nat)(c:Nat->AC):(st.ape d c).nt=st.nt:=rfl
def atG {r:U}:∀{l:List (Tmp×TypeId×Ty)} {G:Gh} {st:St} {k:St->Option U},Inv w0 G st a w->aCH l st k=some r->∃c cA,Inv w0 c cA a w/\cA.nt=st.nt/\k cA=some r
 |[],G,st,k,h,b=>⟨G,st,h,rfl,b⟩|(d,e,u)::l,G,st,k,h,b=>by
  unfold aCH aAK at b;split at b
  .rename_i cells f;split at b
   .rename_i y g;obtain⟨i,b⟩:=aR b;obtain⟨c,j⟩:=h.frz f g i;obtain⟨m,n,o,p,q⟩:=atG j b;exact⟨m,n,o,by rw[p,aA5,(Er cells st).nt],q⟩
   .cases b
  .cases b
end
end Go.Am
