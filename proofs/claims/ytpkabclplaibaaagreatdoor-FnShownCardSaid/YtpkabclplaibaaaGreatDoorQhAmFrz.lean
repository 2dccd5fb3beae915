/- No condition. -/
import Derived.Test.YtpkabclplaibaaaGreatDoorQhAmOrd
set_option linter.all false
namespace Go.Am
open Go.RowKit
variable [ds]
section
variable {U:Type} {P:Program} {w0:di} {w:World} {G:Gh} {st:St} {a:Act}
def wj {U V γ:Type}{R:U->V->Prop}{S:γ->V->Prop}{f:U->γ}(h:∀a b,R a b->S (f a) b):∀{l:List U} {m:List V},bD R l m->bD S (l.map f) m
 |[],[],_=>trivial|[],_::_,c=>c.elim|_::_,[],c=>c.elim|_::_,_::_,c=>⟨h _ _ c.1,wj h c.2⟩
def Jz {bx:List (Nat×List AC)}{d b:Nat}{f:List AC->List AC}(e:b≠d)(h:(look bx b).isSome=true):(look ((bx.filter fun p=> !Nat.beq p.1 d).map fun p=>(p.1,f p.2)) b).isSome=true:=by
 have c:look (bx.filter fun p=> !Nat.beq p.1 d) b=look bx b:=by rw[Bn,ag e]
 obtain⟨x,g⟩:=ek.1 h;rw[g]at c;have:∀{l:List (Nat×List AC)},look l b=some x->look (l.map fun p=>(p.1,f p.2)) b=some (f x):=by
  intro l
  induction l with
  |nil=>intro h;cases h
  |cons p l i =>
   obtain⟨k,v⟩:=p;intro h;simp only[look,kL]at h ⊢;split at h
   .cases h;rfl
   .exact i h
 rw[this c];rfl
def alT {b d:Nat}(h:b≠d):Nat.beq b d=false:=by
 cases c:Nat.beq b d with
 |false=>rfl|true=>exact absurd (Nat.eq_of_beq_eq_true c) h
def Inv.frz (h:Inv w0 G st a w){d:Nat}{cells:List AC}{u:Ty}{y:u.D}(qd:look st.bx d=some cells)(qe:im st u cells=some (y,[]))(qf:kB st cells=true) :
  ∃qg,Inv w0 qg ((st.freeze cells).aaN d fun o=>.IS (bI cells) u y o) a w:=by
 obtain⟨j,p,qI,qK,W⟩:=Inv.freeze cells h;have qh:look (st.freeze cells).bx d=some cells:=by rw[W.bx];exact qd
 obtain⟨cs,e,qi,aS,hrel⟩:=p.bx d cells qh;have qj:im (st.freeze cells) u cells=some (y,[]):=by rw[nY W];exact qe
 obtain⟨qL,X,Y,qk,ql,_⟩:=Fe (Fg p qf (nf:=bI cells) (fun qm=>qm) (bx:=[])) hrel qj;have qn:X=[]:=by
  cases X with
  |nil=>rfl|cons _ _=>exact ql.elim
 subst qn;rw[fo]at Y;subst Y;have hlt:j.hb d<w.heap.size:=(p.own _ _ aS).2.1;have Rz:j.nw (j.hb d):=p.Jk aS;refine⟨{j with own:=fun g=>if g=j.hb d then none else j.own g},?_⟩;have Z:∀{f:Bool} {g:Nat},RO j f g->RO {j with own:=fun g=>if g=j.hb d then none else j.own g} f g:=by
  intro f g r;refine⟨?_,r.2⟩;show(if g=j.hb d then none else j.own g)=none;split
  .rfl
  .exact r.1
 have B:∀{f:Bool} {t:Ty} {x:t.D} {c:List Value},Rd w (RO j f) t x c->Rd w (RO {j with own:=fun g=>if g=j.hb d then none else j.own g} f) t x c:=fun qo=>Rd.mono (bq _) (fun b _ q=>⟨Z q,rfl⟩) qo
 have H:∀(x:AC) (v:Value),a7 j w (st.freeze cells).bx (st.freeze cells).bl x v ->
   a7 {j with own:=fun g=>if g=j.hb d then none else j.own g} w ((st.freeze cells).aaN d fun o=>.IS (bI cells) u y o).bx (st.freeze cells).bl (acb d (fun o=>.IS (bI cells) u y o) x) v:=by
  intro x v m;cases x with
  |none=>trivial|int k n=>exact m|bool b=>exact m|str s=>exact m|nil=>exact m|ro f e t xs=>exact B m|own id len=>cases len<;>exact m
  |ptr b off =>
   by_cases q:b=d
   .subst q;simp only[acb,Ru];refine⟨j.hb b,0,cs.toList,?_,hlt,⟨?_,.inl Rz⟩,B qk,fun i qM qp=>?_⟩
    .rw[pF];exact m.2
    .show(if j.hb b=j.hb b then none else j.own (j.hb b))=none;rw[aj rfl]
    .rw[pF,cell_of_row w (j.hb b) i cs e (0,0) qi,<-Array.getElem?_toList];exact qp
   .simp only[acb,alT q];exact⟨Jz q m.1,m.2⟩
  |fnp g b =>
   by_cases q:b=d
   .subst q;simp only[acb,Ru];trivial
   .simp only[acb,alT q];exact⟨Jz q m.1,m.2⟩
  |qV id i off=>exact m|any=>exact m
  |IS f t x off =>
   obtain⟨b,o,c,qq,qt,qu,qv,qw⟩:=m;exact⟨b,o,c,qq,qt,Z qu,B qv,qw⟩
 have qa:∀(x:CV) (v:Value),da j w (st.freeze cells).bx (st.freeze cells).bl x v ->
   da {j with own:=fun g=>if g=j.hb d then none else j.own g} w ((st.freeze cells).aaN d fun o=>.IS (bI cells) u y o).bx (st.freeze cells).bl (alr d (fun o=>.IS (bI cells) u y o) x) v:=by
  intro x v m;cases x with
  |c x=>exact H x v m
  |agg l =>
   obtain⟨I,rfl,K⟩:=m;exact⟨I,rfl,wj H K⟩
 have qb:∀(x:AV) (v:Value),eK j w (st.freeze cells).bx (st.freeze cells).bl x v ->
   eK {j with own:=fun g=>if g=j.hb d then none else j.own g} w ((st.freeze cells).aaN d fun o=>.IS (bI cells) u y o).bx (st.freeze cells).bl (aiN d (fun o=>.IS (bI cells) u y o) x) v:=by
  intro x v m;cases x with
  |v x=>exact qa x v m
  |GF l =>
   obtain⟨I,rfl,K⟩:=m;exact⟨I,rfl,wj qa K⟩
 have qx:∀{g:Nat} {k:Key},(if g=j.hb d then none else j.own g)=some k->g≠j.hb d/\j.own g=some k:=by
  intro g k r;split at r
  .cases r
  .rename_i C;exact⟨C,r⟩
 refine⟨p.nw,p.Pt,p.below,p.defers,p.size,qb _ _ p.sp,fun g b o qy=>?_,fun t v m=>?_,fun D l qz=>?_,fun id b q=>?_,fun g k r=>?_⟩
 .obtain⟨E,L,z⟩:=p.hd g b o qy;refine⟨?_,L,z⟩;show(if g=j.hb d then none else j.own g)=aiS b;by_cases M:g=j.hb d
  .rw[aj M];rw[M,aS]at E;cases b<;>cases E
  .rw[ag M];exact E
 .obtain⟨x,A,rfl⟩:=ua (aiN d fun o=>.IS (bI cells) u y o) m;exact qb _ _ (p.tm t x A)
 .obtain⟨x,A,rfl⟩:=ua (fun l:List AC=>l.map (acb d fun o=>.IS (bI cells) u y o)) qz;rw[Bn]at A;split at A
  .cases A
  .rename_i C;obtain⟨N,qA,O,F,Q⟩:=p.bx D x A;refine⟨N,qA,O,?_,wj H Q⟩;show(if j.hb D=j.hb d then none else j.own (j.hb D))=some (.bx D);rw[ag (fun R=>?_)]
   .exact F
   .rw[R,aS]at F;cases F;exact C rfl
 .have S:=p.bl id b q;refine⟨fun T=>?_,fun T=>B (S.rd T),S.pos⟩;obtain⟨N,O,F,Q⟩:=S.wr T;refine⟨N,O,fun g r=>?_,fun qB x qC=>?_⟩
  .show(if g=j.hb d then none else j.own g)=some (.bl id);have:=F g r;rw[ag (fun R=>?_)]
   .exact this
   .rw[R,aS]at this;cases this
  .obtain⟨qD,qE,qF⟩:=Q qB x qC;exact⟨qD,B qE,qF⟩
 .obtain⟨C,qG⟩:=qx r;obtain⟨E,L,z⟩:=p.own g k qG;refine⟨E,L,?_⟩;cases k with
  |bx D =>
   refine⟨Jz (fun qH=>C ?_) z.1,z.2⟩;rw[z.2,qH]
  |bl id=>exact z|hid=>trivial
def alU (st:St)(d:Nat)(c:Nat->AC):(st.aaN d c).nt=st.nt:=rfl
def ahj (w0:di)(e:TypeId):Prop:=(∀g,w0.hd g=none)/\∀b cur c,ds.n<=b->w0.nw b->w0.w.heap[b]?=some (.cells cur e c)->w0.fr b
def an5 {e:TypeId}{u:Ty}(f:big u=true){xs:List u.D}{v:Value}(h:Rd w (RO G true) (.sl e u) xs [v]) :
  ∃rows,w.ownsRow 0 e u.n v xs.length rows/\dx w (RO G true) u rows xs/\(∃A n cap,v=.slice A n cap)/\∀g,v.ownBlock=some g->G.own g=none/\G.nw g/\ds.n<=g/\∃cur p,w.heap[g]?=some (.cells cur e p):=by
 obtain⟨A,cap,t,q,N,z⟩:=h;cases (we t).1;by_cases d:Lv u xs.length A cap
 .obtain⟨b,O,rfl,hlt,cR,B,C⟩:=z d;obtain⟨D,cur,p,l,E⟩:=B (.inr f);obtain⟨rfl,rfl,F,H⟩:=E f;have Q:xs.length*u.n<=cap*u.n:=tt _ q;refine⟨cur.toList.take (xs.length*u.n),⟨by simp;omega,.inr ⟨b,cap,cur,rfl,a1 _,l,q,H,F,rfl⟩⟩,fun j x k=>?_,⟨_,_,_,rfl⟩,fun g m=>?_⟩
  .obtain⟨c,r,I⟩:=C j x k;refine⟨c,r,fun i y s=>?_⟩;have R:=(lu.1 k).1;have K:=(lu.1 s).1;rw[r.len]at K;have L:j*u.n+i<xs.length*u.n:=by have:(j+1)*u.n<=xs.length*u.n:=tt _ (by omega);rw[By,MA]at this;omega
   have:=I i y s;rw[pF,cell_of_row w b _ cur e (0,0) l]at this;rw[C1,aj L];simpa using this
  .have:b=g:=by simpa [Value.ownBlock]using m
   subst this;exact⟨cR.1,cR.2.elim (fun h=>h) (fun h=>by cases h.1),D,cur,_,l⟩
 .have M:xs.length=0/\cap=0/\A=none:=by
   unfold Lv at d;refine⟨?_,?_,?_⟩
   .rcases Tc xs.length with h|h
    .exact h
    .exact absurd (.inl h) d
   .rcases Tc cap with h|h
    .exact h
    .exact absurd (.inr ⟨f,.inl h⟩) d
   .exact ad7 fun h=>d (.inr ⟨f,.inr h⟩)
  obtain⟨o,rfl,rfl⟩:=M;refine⟨[],⟨by simp[o],.inl ⟨by rw[o],o⟩⟩,fun j x k=>?_,⟨_,_,_,rfl⟩,fun g m=>by simp[Value.ownBlock]at m⟩;have:=(lu.1 k).1;omega
def PN {e:TypeId}{B ok l:Nat->Prop}(f:∀g,B g->ds.n<=g/\∃cur m,w.heap[g]?=some (.cells cur e m))(cR:∀g,ok g->¬B g->l g):∀{t:Ty} {x:t.D} {cs:List Value},CZ e t=false->Rd w ok t x cs->Rd w l t x cs
 |.int _,_,_,_,h=>h|.bool,_,_,_,h=>h|.str,_,_,_,h=>h|.unit,_,_,_,h=>h|.pair a b,_,_,d,h=>by simp only[CZ,HA]at d;obtain⟨o,p,rfl,j,k⟩:=h;exact⟨o,p,rfl,PN f cR d.1 j,PN f cR d.2 k⟩
 |.sl I t,xs,cs,d,h=>by
  simp only[CZ,HA]at d;obtain⟨A,cap,rfl,q,r,h⟩:=h;refine⟨A,cap,rfl,q,r,fun s=>?_⟩;obtain⟨b,u,rfl,hlt,v,n,y⟩:=h s;refine⟨b,u,rfl,hlt,cR b v fun z=>?_,n,fun C x D=>?_⟩
  .obtain⟨j,cur,m,k⟩:=f b z;obtain⟨_,K,L,i,_⟩:=n (.inl j);rw[k]at i;injection i with i
   injection i with _ E _
   rw[E,Ru]at d;cases d.1
  .obtain⟨c,F,H⟩:=y C x D;exact⟨c,PN f cR d.2 F,H⟩
def Of {V γ:Type}{f:V->γ}{n:Nat}:∀{l:List (Nat×V)},(look l n).isSome=true->(look (l.map fun p=>(p.1,f p.2)) n).isSome=true
 |[],h=>by cases h
 |(k,v)::l,h=>by
  simp only[look,kL]at h ⊢;split at h
  .rfl
  .exact Of h
def akq {e:TypeId}{x:Option dD}{b:dD}(h:aj2 e x=some b):x=some b/\CZ e b.t=false/\(b.w=false->Nat.beq b.e e=false):=by
 unfold aj2 at h;split at h
 .split at h
  .cases h
  .rename_i c;cases h;rw[HA]at c;refine⟨rfl,c.1,fun d=>?_⟩;have:=c.2;rw[d]at this;simpa using this
 .cases h
def Inv.aiP (h:Inv w0 G st a w){d id:Nat}{e:TypeId}{u:Ty}(qp:ahj w0 e){l:List AC}{j:Nat}{xs:List u.D}(qz:look st.bx d=some l)(hid:look st.bl id=none)(M:gU l j=some (.ro true e u xs))(Z:big u=true)(qa:CZ e u=false) :
  ∃E,Inv w0 E (Uc d id e u l j xs st) a w:=by
 obtain⟨cs,qA,qB,aS,hrel⟩:=h.bx d l qz;obtain⟨v,hv,qC⟩:=hrel.nth M;obtain⟨rows,qD,qE,qF,qb⟩:=an5 Z qC
 let E:Gh:={G with own:=fun g=>if v.ownBlock=some g then some (.bl id) else G.own g,hv:=fun i=>if i=id then v else G.hv i}
 have qG:∀g,v.ownBlock=some g->ds.n<=g/\∃cur qd,w.heap[g]?=some (.cells cur e qd):=fun g q=>(qb g q).2.2
 have qH:∀{f:Bool} (g:Nat),RO G f g->¬v.ownBlock=some g->RO E f g:=fun g q qe=>⟨by show(if v.ownBlock=some g then some (Key.bl id) else G.own g)=none;rw[ag qe];exact q.1,q.2⟩
 have R:∀{f:Bool} {t:Ty} {x:t.D} {c:List Value},CZ e t=false->Rd w (RO G f) t x c->Rd w (RO E f) t x c:=fun qa qI=>PN (B:=fun g=>v.ownBlock=some g) qG qH qa qI
 have qf:∀{g:Nat} {k:Key},G.own g=some k->E.own g=some k:=by intro g k q;show(if v.ownBlock=some g then some (Key.bl id) else G.own g)=some k;rw[ag,q];intro qe;rw[(qb g qe).1]at q;cases q
 have qq:∀{i:Nat},(look st.bl i).isSome=true->i≠id:=by rintro i C rfl;rw[hid]at C;cases C
 have I:∀{i:Nat},(look st.bl i).isSome=true->E.hv i=G.hv i:=fun C=>ag (qq C)
 have qg:∀{b:Nat},(look st.bx b).isSome=true->(look (Uc d id e u l j xs st).bx b).isSome=true:=fun C=>iY _ trivial (Of C)
 have S:∀{i:Nat},(look st.bl i).isSome=true->(look (Uc d id e u l j xs st).bl i).isSome=true:=fun C=>iY _ trivial (Of C)
 have qt:∀{i:Nat} {b:dD},i≠id->look (Uc d id e u l j xs st).bl i=some (some b)->look st.bl i=some (some b)/\CZ e b.t=false/\(b.w=false->Nat.beq b.e e=false):=by intro i b T F;have F:look ((id,some ⟨e,u,xs,true,true⟩)::st.bl.map fun p=>(p.1,aj2 e p.2)) i=some (some b):=F;rw[ai,ag (fun h=>T h.symm)]at F;obtain⟨x,z,r⟩:=ua (aj2 e) F;obtain⟨rfl,H,qh⟩:=akq r.symm;exact⟨z,H,qh⟩
 have W:∀(x:AC) (D:Value),a7 G w st.bx st.bl x D->a7 E w (Uc d id e u l j xs st).bx (Uc d id e u l j xs st).bl (acd e x) D:=by
  intro x D o;cases x with
  |none=>trivial|int k n=>exact o|bool b=>exact o|str s=>exact o|nil=>exact o|any=>exact o|IS f t x off=>trivial
  |ro f qi t xa =>
   simp only[acd];split
   .trivial
   .rename_i qK;exact R (t:=.sl qi t) qK o
  |own i len =>
   cases len with
   |none=>exact⟨S o.1,by rw[I o.1];exact o.2.1,by rw[I o.1];exact o.2.2⟩
   |some m =>
    obtain⟨z,qj,A,n,cap,r,H,rfl⟩:=o;exact⟨S z,qj,A,n,cap,by rw[I z];exact r,H,rfl⟩
  |ptr b off=>exact⟨qg o.1,o.2⟩|fnp g b=>exact⟨qg o.1,o.2⟩
  |qV i n off =>
   obtain⟨z,qL,qj,g,qu,qM,cap,r,H,qh⟩:=o;exact⟨S z,qL,qj,g,qu,qM,cap,by rw[I z];exact r,H,fun b F=>qh b (qt (qq z) F).1⟩
 have qv:∀(x:CV) (D:Value),da G w st.bx st.bl x D->da E w (Uc d id e u l j xs st).bx (Uc d id e u l j xs st).bl (alu e x) D:=by
  intro x D o;cases x with
  |c x=>exact W x D o
  |agg l =>
   obtain⟨qk,rfl,r⟩:=o;exact⟨qk,rfl,wj W r⟩
 have qw:∀(x:AV) (D:Value),eK G w st.bx st.bl x D->eK E w (Uc d id e u l j xs st).bx (Uc d id e u l j xs st).bl (aiO e x) D:=by
  intro x D o;cases x with
  |v x=>exact qv x D o
  |GF l =>
   obtain⟨qk,rfl,r⟩:=o;exact⟨qk,rfl,wj qv r⟩
 have ql:look (Uc d id e u l j xs st).bl id=some (some ⟨e,u,xs,true,true⟩):=by show look ((id,some ⟨e,u,xs,true,true⟩)::st.bl.map fun p=>(p.1,aj2 e p.2)) id=_;rw[ai,aj rfl]
 have N:E.hv id=v:=aj rfl;refine⟨E,h.nw,h.Pt,h.below,h.defers,h.size,qw _ _ h.sp,fun g b qu qx=>(by rw[qp.1 g]at qx;cases qx),fun t x o=>?_,fun X qN K=>?_,fun i b F=>?_,fun g k q=>?_⟩
 .obtain⟨y,qm,rfl⟩:=ua (aiO e) o;exact qw _ _ (h.tm t y qm)
 .have K:look ((d,x1 (l.map (acd e)) j (.own id none))::st.bx.map fun p=>(p.1,p.2.map (acd e))) X=some qN:=K;rw[ai]at K;by_cases qy:d=X
  .subst qy;rw[aj rfl]at K;cases K;refine⟨cs,qA,qB,qf aS,?_⟩;have qO:cs.toList=cs.toList.set j v:=by obtain⟨hlt,qP⟩:=lu.1 hv;rw[<-qP];exact(abR hlt).symm
   rw[qO];refine bD.set (wj W hrel) j ?_;obtain⟨A,n,cap,qQ⟩:=qF;exact⟨by rw[ql];rfl,⟨A,n,cap,N.trans qQ⟩,N.symm⟩
  .rw[ag qy]at K;obtain⟨y,qm,rfl⟩:=ua (fun l:List AC=>l.map (acd e)) K;obtain⟨qn,qi,z,r,H⟩:=h.bx X y qm;exact⟨qn,qi,z,qf r,wj W H⟩
 .by_cases T:i=id
  .subst T;rw[ql]at F;cases F;refine⟨fun _=>⟨rows,by rw[N];exact qD,fun g q=>?_,fun j x M=>?_⟩,(fun L=>by cases L),?_⟩
   .rw[N]at q;exact aj q
   .obtain⟨c,z,r⟩:=qE j x M;exact⟨c,R qa z,r⟩
   .unfold big at Z;have:=tU Z;show 0<u.n;omega
  .obtain⟨z,r,H⟩:=qt T F;have C:(look st.bl i).isSome=true:=by rw[z];rfl
   have qo:=h.bl i b z;refine⟨fun L=>?_,fun L=>?_,qo.pos⟩
   .obtain⟨qn,qR,qS,qT⟩:=qo.wr L;rw[I C];refine⟨qn,qR,fun g q=>qf (qS g q),fun j x M=>?_⟩;obtain⟨c,qW,qX⟩:=qT j x M;exact⟨c,R r qW,qX⟩
   .rw[I C];refine R (t:=.sl b.e b.t) ?_ (qo.rd L);simp only[CZ,HA];exact⟨H L,r⟩
 .by_cases Y:v.ownBlock=some g
  .have O:(if v.ownBlock=some g then some (Key.bl id) else G.own g)=some k:=q;rw[aj Y]at O;cases O;obtain⟨f1,f2,f3,cur,qd,f4⟩:=qb g Y;have hlt:=(nj.1 f4).1;refine⟨?_,hlt,by rw[ql];rfl,by rw[N];exact Y⟩;by_cases C:w0.w.heap.size<=g
   .exact .inl C
   .by_cases Ud:w0.fr g
    .exact .inr Ud
    .refine .inr (qp.2 g cur qd f3 (by rw[<-h.nw];exact f2) ?_);rw[<-h.below.block g (by omega) Ud];exact f4
  .have O:(if v.ownBlock=some g then some (Key.bl id) else G.own g)=some k:=q;rw[ag Y]at O;obtain⟨qY,qZ,Q⟩:=h.own g k O;refine⟨qY,qZ,?_⟩;cases k with
   |hid=>trivial|bx X=>exact⟨qg Q.1,Q.2⟩|bl i=>exact⟨S Q.1,by rw[I Q.1];exact Q.2⟩
def ahk {e:TypeId}{u:Ty}:∀{l:List AC} {i j:Nat} {xs:List u.D},aeg e u l i=some (j,xs)->∃d,j=i+d/\gU l d=some (.ro true e u xs):=by
 intro l
 induction l with
 |nil=>intro i j xs h;cases h
 |cons c l k =>
  intro i j xs h;unfold aeg at h;split at h
  .cases ‹_::_=[]›
  .rename_i o t p q g;injection g with f b
   subst f b;split at h
   .rename_i m;cases aA m;split at h
    .rename_i n;obtain rfl:=Ty.beq_eq n;cases h;exact⟨0,rfl,rfl⟩
    .cases h
   .obtain⟨d,f,b⟩:=k h;exact⟨d+1,by omega,b⟩
  .rename_i g;injection g with f b
   subst b;obtain⟨d,f,b⟩:=k h;exact⟨d+1,by omega,b⟩
def WV {r:U}{s:List Nat}(f:∀e,EM s e=true->ahj w0 e):∀{l:List (Tmp×TypeId×Ty)} {G:Gh} {st:St} {k:St->Option U},Inv w0 G st a w->alv s l st k=some r->∃g bV,Inv w0 g bV a w/\bV.nt=st.nt/\k bV=some r
 |[],G,st,k,h,b=>⟨G,st,h,rfl,b⟩|(d,e,u)::l,G,st,k,h,b=>by
  unfold alv at b;split at b
  .rename_i v;unfold aiP at b;split at b
   .rename_i B i hid;split at b
    .rename_i C xs x;obtain⟨j,b⟩:=aG b;rw[az]at j;obtain⟨D,t,c⟩:=ahk x;rw[pF]at t;subst t;obtain⟨g,m⟩:=h.aiP (f e v) i hid c j.1 (by simpa using j.2);obtain⟨n,o,c,p,q⟩:=WV f m b;exact⟨n,o,c,p,q⟩
    .cases b
   .cases b
  .unfold als at b;split at b
   .rename_i cells i;split at b
    .rename_i y z;obtain⟨A,b⟩:=aG b;obtain⟨g,m⟩:=h.frz i z A;obtain⟨n,o,c,p,q⟩:=WV f m b;exact⟨n,o,c,by rw[p,alU,(x4 cells st).nt],q⟩
    .cases b
   .cases b
end
end Go.Am
