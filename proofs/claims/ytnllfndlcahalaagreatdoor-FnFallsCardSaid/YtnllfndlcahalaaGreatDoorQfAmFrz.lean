/- No condition. -/
import Derived.Test.YtnllfndlcahalaaGreatDoorQfAmOrd
set_option linter.all false
namespace Go.Am
open Go.RowKit
section
variable {U:Type} {P:Program} {w0:fc} {w:World} {G:Gh} {st:St} {a:Act}
def adR {U V γ:Type}{R:U->V->Prop}{S:γ->V->Prop}{f:U->γ}(h:∀a b,R a b->S (f a) b):∀{l:List U} {m:List V},ch R l m->ch S (l.map f) m
 |[],[],_=>trivial|[],_::_,c=>c.elim|_::_,[],c=>c.elim|_::_,_::_,c=>⟨h _ _ c.1,adR h c.2⟩
def VR {bx:List (Nat×List AC)}{d b:Nat}{f:List AC->List AC}(e:b≠d)(h:(look bx b).isSome=true):(look ((bx.filter fun p=> !Nat.beq p.1 d).map fun p=>(p.1,f p.2)) b).isSome=true:=by
 have c:look (bx.filter fun p=> !Nat.beq p.1 d) b=look bx b:=by rw[JG,af e]
 obtain⟨x,g⟩:=lX.1 h;rw[g]at c;have:∀{l:List (Nat×List AC)},look l b=some x->look (l.map fun p=>(p.1,f p.2)) b=some (f x):=by
  intro l
  induction l with
  |nil=>intro h;cases h
  |cons p l i =>
   obtain⟨k,v⟩:=p;intro h;simp only[look,tf]at h ⊢;split at h
   .cases h;rfl
   .exact i h
 rw[this c];rfl
def aGr {b d:Nat}(h:b≠d):Nat.beq b d=false:=by
 cases c:Nat.beq b d with
 |false=>rfl|true=>exact absurd (Nat.eq_of_beq_eq_true c) h
def Inv.frz (h:Inv w0 G st a w){d:Nat}{cells:List AC}{u:Ty}{y:u.D}(qf:look st.bx d=some cells)(hi:im st u cells=some (y,[]))(qg:o9 st cells=true) :
  ∃qh,Inv w0 qh ((st.freeze cells).as7 d fun o=>.UT (cj cells) u y o) a w:=by
 obtain⟨j,p,qK,qL,W⟩:=Inv.freeze cells h;have qi:look (st.freeze cells).bx d=some cells:=by rw[W.bx];exact qf
 obtain⟨cs,e,qj,bp,hrel⟩:=p.bx d cells qi;have qk:im (st.freeze cells) u cells=some (y,[]):=by rw[uv W];exact hi
 obtain⟨qM,X,Y,ql,qm,_⟩:=Pv (Px p qg (nf:=cj cells) (fun qn=>qn) (bx:=[])) hrel qk;have qo:X=[]:=by
  cases X with
  |nil=>rfl|cons _ _=>exact qm.elim
 subst qo;rw[fh]at Y;subst Y;have hlt:j.hb d<w.heap.size:=(p.own _ _ bp).2.1;have hnw:j.nw (j.hb d):=p.Vz bp;refine⟨{j with own:=fun g=>if g=j.hb d then none else j.own g},?_⟩;have Z:∀{f:Bool} {g:Nat},RO j f g->RO {j with own:=fun g=>if g=j.hb d then none else j.own g} f g:=by
  intro f g r;refine⟨?_,r.2⟩;show(if g=j.hb d then none else j.own g)=none;split
  .rfl
  .exact r.1
 have B:∀{f:Bool} {t:Ty} {x:t.D} {c:List Value},Rd w (RO j f) t x c->Rd w (RO {j with own:=fun g=>if g=j.hb d then none else j.own g} f) t x c:=fun qp=>Rd.mono (bG _) (fun b _ q=>⟨Z q,rfl⟩) qp
 have H:∀(x:AC) (v:Value),bC j w (st.freeze cells).bx (st.freeze cells).bl x v ->
   bC {j with own:=fun g=>if g=j.hb d then none else j.own g} w ((st.freeze cells).as7 d fun o=>.UT (cj cells) u y o).bx (st.freeze cells).bl (au7 d (fun o=>.UT (cj cells) u y o) x) v:=by
  intro x v m;cases x with
  |none=>trivial|int k n=>exact m|bool b=>exact m|str s=>exact m|nil=>exact m|ro f e t xs=>exact B m|own id len=>cases len<;>exact m
  |ptr b off =>
   by_cases q:b=d
   .subst q;simp only[au7,Nat.beq_refl];refine⟨j.hb b,0,cs.toList,?_,hlt,⟨?_,.inl hnw⟩,B ql,fun i qN qq=>?_⟩
    .rw[wO];exact m.2
    .show(if j.hb b=j.hb b then none else j.own (j.hb b))=none;rw[ag rfl]
    .rw[wO,cell_of_row w (j.hb b) i cs e (0,0) qj,<-Array.getElem?_toList];exact qq
   .simp only[au7,aGr q];exact⟨VR q m.1,m.2⟩
  |fnp g b =>
   by_cases q:b=d
   .subst q;simp only[au7,Nat.beq_refl];trivial
   .simp only[au7,aGr q];exact⟨VR q m.1,m.2⟩
  |Mi id i off=>exact m|any=>exact m
  |UT f t x off =>
   obtain⟨b,o,c,qt,qu,qv,qw,qx⟩:=m;exact⟨b,o,c,qt,qu,Z qv,B qw,qx⟩
 have qd:∀(x:CV) (v:Value),eF j w (st.freeze cells).bx (st.freeze cells).bl x v ->
   eF {j with own:=fun g=>if g=j.hb d then none else j.own g} w ((st.freeze cells).as7 d fun o=>.UT (cj cells) u y o).bx (st.freeze cells).bl (aF7 d (fun o=>.UT (cj cells) u y o) x) v:=by
  intro x v m;cases x with
  |c x=>exact H x v m
  |agg l =>
   obtain⟨I,rfl,K⟩:=m;exact⟨I,rfl,adR H K⟩
 have qe:∀(x:AV) (v:Value),jP j w (st.freeze cells).bx (st.freeze cells).bl x v ->
   jP {j with own:=fun g=>if g=j.hb d then none else j.own g} w ((st.freeze cells).as7 d fun o=>.UT (cj cells) u y o).bx (st.freeze cells).bl (aCS d (fun o=>.UT (cj cells) u y o) x) v:=by
  intro x v m;cases x with
  |v x=>exact qd x v m
  |Vf l =>
   obtain⟨I,rfl,K⟩:=m;exact⟨I,rfl,adR qd K⟩
 have qy:∀{g:Nat} {k:Key},(if g=j.hb d then none else j.own g)=some k->g≠j.hb d/\j.own g=some k:=by
  intro g k r;split at r
  .cases r
  .rename_i C;exact⟨C,r⟩
 refine⟨p.nw,p.rok,p.below,p.defers,p.size,qe _ _ p.sp,fun g b o qz=>?_,fun t v m=>?_,fun D l qA=>?_,fun id b q=>?_,fun g k r=>?_⟩
 .obtain⟨E,L,z⟩:=p.hd g b o qz;refine⟨?_,L,z⟩;show(if g=j.hb d then none else j.own g)=aCU b;by_cases M:g=j.hb d
  .rw[ag M];rw[M,bp]at E;cases b<;>cases E
  .rw[af M];exact E
 .obtain⟨x,A,rfl⟩:=YC (aCS d fun o=>.UT (cj cells) u y o) m;exact qe _ _ (p.tm t x A)
 .obtain⟨x,A,rfl⟩:=YC (fun l:List AC=>l.map (au7 d fun o=>.UT (cj cells) u y o)) qA;rw[JG]at A;split at A
  .cases A
  .rename_i C;obtain⟨N,qB,O,F,Q⟩:=p.bx D x A;refine⟨N,qB,O,?_,adR H Q⟩;show(if j.hb D=j.hb d then none else j.own (j.hb D))=some (.bx D);rw[af (fun R=>?_)]
   .exact F
   .rw[R,bp]at F;cases F;exact C rfl
 .have S:=p.bl id b q;refine⟨fun T=>?_,fun T=>B (S.rd T),S.pos⟩;obtain⟨N,O,F,Q⟩:=S.wr T;refine⟨N,O,fun g r=>?_,fun qC x qD=>?_⟩
  .show(if g=j.hb d then none else j.own g)=some (.bl id);have:=F g r;rw[af (fun R=>?_)]
   .exact this
   .rw[R,bp]at this;cases this
  .obtain⟨qE,qF,qG⟩:=Q qC x qD;exact⟨qE,B qF,qG⟩
 .obtain⟨C,qH⟩:=qy r;obtain⟨E,L,z⟩:=p.own g k qH;refine⟨E,L,?_⟩;cases k with
  |bx D =>
   refine⟨VR (fun qI=>C ?_) z.1,z.2⟩;rw[z.2,qI]
  |bl id=>exact z|hid=>trivial
def aGs (st:St)(d:Nat)(c:Nat->AC):(st.as7 d c).nt=st.nt:=rfl
def ax9 {r:U}:∀{l:List (Tmp×TypeId×Ty)} {G:Gh} {st:St} {k:St->Option U},Inv w0 G st a w->aIl l st k=some r->∃c dd,Inv w0 c dd a w/\dd.nt=st.nt/\k dd=some r
 |[],G,st,k,h,b=>⟨G,st,h,rfl,b⟩|(d,e,u)::l,G,st,k,h,b=>by
  unfold aIl aF8 at b;split at b
  .rename_i cells f;split at b
   .rename_i y g;obtain⟨i,b⟩:=aX b;obtain⟨c,j⟩:=h.frz f g i;obtain⟨m,n,o,p,q⟩:=ax9 j b;exact⟨m,n,o,by rw[p,aGs,(Ga cells st).nt],q⟩
   .cases b
  .cases b
end
end Go.Am
