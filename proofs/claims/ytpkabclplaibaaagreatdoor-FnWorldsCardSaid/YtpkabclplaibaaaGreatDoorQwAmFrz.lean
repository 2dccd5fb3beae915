/- No condition. -/
import Derived.Test.YtpkabclplaibaaaGreatDoorQwAmOrd
set_option linter.all false
namespace Go.Am
open Go.RowKit
variable [ei]
section
variable {U:Type} {P:Program} {w0:dY} {w:World} {G:Gh} {st:St} {a:Act}
def EC {U V γ:Type}{R:U->V->Prop}{S:γ->V->Prop}{f:U->γ}(h:∀a b,R a b->S (f a) b):∀{l:List U} {m:List V},bY R l m->bY S (l.map f) m
 |[],[],_=>trivial|[],_::_,c=>c.elim|_::_,[],c=>c.elim|_::_,_::_,c=>⟨h _ _ c.1,EC h c.2⟩
def TW {bx:List (Nat×List AC)}{d b:Nat}{f:List AC->List AC}(e:b≠d)(h:(look bx b).isSome=true):(look ((bx.filter fun p=> !Nat.beq p.1 d).map fun p=>(p.1,f p.2)) b).isSome=true:=by
 have c:look (bx.filter fun p=> !Nat.beq p.1 d) b=look bx b:=by rw[I3,ag e]
 obtain⟨x,g⟩:=fC.1 h;rw[g]at c;have:∀{l:List (Nat×List AC)},look l b=some x->look (l.map fun p=>(p.1,f p.2)) b=some (f x):=by
  intro l
  induction l with
  |nil=>intro h;cases h
  |cons p l i =>
   obtain⟨k,v⟩:=p;intro h;simp only[look,sE]at h ⊢;split at h
   .cases h;rfl
   .exact i h
 rw[this c];rfl
def aBO {b d:Nat}(h:b≠d):Nat.beq b d=false:=by
 cases c:Nat.beq b d with
 |false=>rfl|true=>exact absurd (Nat.eq_of_beq_eq_true c) h
def Inv.frz (h:Inv w0 G st a w){d:Nat}{cells:List AC}{u:Ty}{y:u.D}(qf:look st.bx d=some cells)(hi:im st u cells=some (y,[]))(qg:oj st cells=true) :
  ∃qh,Inv w0 qh ((st.freeze cells).apd d fun o=>.Qd (b5 cells) u y o) a w:=by
 obtain⟨j,p,qK,qL,W⟩:=Inv.freeze cells h;have qi:look (st.freeze cells).bx d=some cells:=by rw[W.bx];exact qf
 obtain⟨cs,e,qj,bf,hrel⟩:=p.bx d cells qi;have qk:im (st.freeze cells) u cells=some (y,[]):=by rw[tG W];exact hi
 obtain⟨qM,X,Y,ql,qm,_⟩:=Oi (Ok p qg (nf:=b5 cells) (fun qn=>qn) (bx:=[])) hrel qk;have qo:X=[]:=by
  cases X with
  |nil=>rfl|cons _ _=>exact qm.elim
 subst qo;rw[fD]at Y;subst Y;have hlt:j.hb d<w.heap.size:=(p.own _ _ bf).2.1;have hnw:j.nw (j.hb d):=p.TI bf;refine⟨{j with own:=fun g=>if g=j.hb d then none else j.own g},?_⟩;have Z:∀{f:Bool} {g:Nat},RO j f g->RO {j with own:=fun g=>if g=j.hb d then none else j.own g} f g:=by
  intro f g r;refine⟨?_,r.2⟩;show(if g=j.hb d then none else j.own g)=none;split
  .rfl
  .exact r.1
 have B:∀{f:Bool} {t:Ty} {x:t.D} {c:List Value},Rd w (RO j f) t x c->Rd w (RO {j with own:=fun g=>if g=j.hb d then none else j.own g} f) t x c:=fun qp=>Rd.mono (bh _) (fun b _ q=>⟨Z q,rfl⟩) qp
 have H:∀(x:AC) (v:Value),bo j w (st.freeze cells).bx (st.freeze cells).bl x v ->
   bo {j with own:=fun g=>if g=j.hb d then none else j.own g} w ((st.freeze cells).apd d fun o=>.Qd (b5 cells) u y o).bx (st.freeze cells).bl (aqT d (fun o=>.Qd (b5 cells) u y o) x) v:=by
  intro x v m;cases x with
  |none=>trivial|int k n=>exact m|bool b=>exact m|str s=>exact m|nil=>exact m|ro f e t xs=>exact B m|own id len=>cases len<;>exact m
  |ptr b off =>
   by_cases q:b=d
   .subst q;simp only[aqT,adW];refine⟨j.hb b,0,cs.toList,?_,hlt,⟨?_,.inl hnw⟩,B ql,fun i qN qq=>?_⟩
    .rw[vS];exact m.2
    .show(if j.hb b=j.hb b then none else j.own (j.hb b))=none;rw[ak rfl]
    .rw[vS,cell_of_row w (j.hb b) i cs e (0,0) qj,<-Array.getElem?_toList];exact qq
   .simp only[aqT,aBO q];exact⟨TW q m.1,m.2⟩
  |fnp g b =>
   by_cases q:b=d
   .subst q;simp only[aqT,adW];trivial
   .simp only[aqT,aBO q];exact⟨TW q m.1,m.2⟩
  |wS id i off=>exact m|any=>exact m
  |Qd f t x off =>
   obtain⟨b,o,c,qt,qu,qv,qw,qx⟩:=m;exact⟨b,o,c,qt,qu,Z qv,B qw,qx⟩
 have qd:∀(x:CV) (v:Value),dL j w (st.freeze cells).bx (st.freeze cells).bl x v ->
   dL {j with own:=fun g=>if g=j.hb d then none else j.own g} w ((st.freeze cells).apd d fun o=>.Qd (b5 cells) u y o).bx (st.freeze cells).bl (aBn d (fun o=>.Qd (b5 cells) u y o) x) v:=by
  intro x v m;cases x with
  |c x=>exact H x v m
  |agg l =>
   obtain⟨I,rfl,K⟩:=m;exact⟨I,rfl,EC H K⟩
 have qe:∀(x:AV) (v:Value),gu j w (st.freeze cells).bx (st.freeze cells).bl x v ->
   gu {j with own:=fun g=>if g=j.hb d then none else j.own g} w ((st.freeze cells).apd d fun o=>.Qd (b5 cells) u y o).bx (st.freeze cells).bl (aym d (fun o=>.Qd (b5 cells) u y o) x) v:=by
  intro x v m;cases x with
  |v x=>exact qd x v m
  |Qe l =>
   obtain⟨I,rfl,K⟩:=m;exact⟨I,rfl,EC qd K⟩
 have qy:∀{g:Nat} {k:Key},(if g=j.hb d then none else j.own g)=some k->g≠j.hb d/\j.own g=some k:=by
  intro g k r;split at r
  .cases r
  .rename_i C;exact⟨C,r⟩
 refine⟨p.nw,p.rok,p.below,p.defers,p.size,qe _ _ p.sp,fun g b o qz=>?_,fun t v m=>?_,fun D l qA=>?_,fun id b q=>?_,fun g k r=>?_⟩
 .obtain⟨E,L,z⟩:=p.hd g b o qz;refine⟨?_,L,z⟩;show(if g=j.hb d then none else j.own g)=ayr b;by_cases M:g=j.hb d
  .rw[ak M];rw[M,bf]at E;cases b<;>cases E
  .rw[ag M];exact E
 .obtain⟨x,A,rfl⟩:=BX (aym d fun o=>.Qd (b5 cells) u y o) m;exact qe _ _ (p.tm t x A)
 .obtain⟨x,A,rfl⟩:=BX (fun l:List AC=>l.map (aqT d fun o=>.Qd (b5 cells) u y o)) qA;rw[I3]at A;split at A
  .cases A
  .rename_i C;obtain⟨N,qB,O,F,Q⟩:=p.bx D x A;refine⟨N,qB,O,?_,EC H Q⟩;show(if j.hb D=j.hb d then none else j.own (j.hb D))=some (.bx D);rw[ag (fun R=>?_)]
   .exact F
   .rw[R,bf]at F;cases F;exact C rfl
 .have S:=p.bl id b q;refine⟨fun T=>?_,fun T=>B (S.rd T),S.pos⟩;obtain⟨N,O,F,Q⟩:=S.wr T;refine⟨N,O,fun g r=>?_,fun qC x qD=>?_⟩
  .show(if g=j.hb d then none else j.own g)=some (.bl id);have:=F g r;rw[ag (fun R=>?_)]
   .exact this
   .rw[R,bf]at this;cases this
  .obtain⟨qE,qF,qG⟩:=Q qC x qD;exact⟨qE,B qF,qG⟩
 .obtain⟨C,qH⟩:=qy r;obtain⟨E,L,z⟩:=p.own g k qH;refine⟨E,L,?_⟩;cases k with
  |bx D =>
   refine⟨TW (fun qI=>C ?_) z.1,z.2⟩;rw[z.2,qI]
  |bl id=>exact z|hid=>trivial
def aBP (st:St)(d:Nat)(c:Nat->AC):(st.apd d c).nt=st.nt:=rfl
def awG (w0:dY)(e:TypeId):Prop:=(∀g,w0.hd g=none)/\∀b cur c,ei.n<=b->w0.nw b->w0.w.heap[b]?=some (.cells cur e c)->w0.fr b
def aD2 {e:TypeId}{u:Ty}(f:big u=true){xs:List u.D}{v:Value}(h:Rd w (RO G true) (.sl e u) xs [v]) :
  ∃rows,w.ownsRow 0 e u.n v xs.length rows/\et w (RO G true) u rows xs/\(∃A n cap,v=.slice A n cap)/\∀g,v.ownBlock=some g->G.own g=none/\G.nw g/\ei.n<=g/\∃cur p,w.heap[g]?=some (.cells cur e p):=by
 obtain⟨A,cap,t,q,N,z⟩:=h;cases (sD t).1;by_cases d:Lv u xs.length A cap
 .obtain⟨b,O,rfl,hlt,cz,B,C⟩:=z d;obtain⟨D,cur,p,l,E⟩:=B (.inr f);obtain⟨rfl,rfl,F,H⟩:=E f;have Q:xs.length*u.n<=cap*u.n:=Bb _ q;refine⟨cur.toList.take (xs.length*u.n),⟨by simp;omega,.inr ⟨b,cap,cur,rfl,a7 _,l,q,H,F,rfl⟩⟩,fun j x k=>?_,⟨_,_,_,rfl⟩,fun g m=>?_⟩
  .obtain⟨c,r,I⟩:=C j x k;refine⟨c,r,fun i y s=>?_⟩;have R:=(oC.1 k).1;have K:=(oC.1 s).1;rw[r.len]at K;have L:j*u.n+i<xs.length*u.n:=by have:(j+1)*u.n<=xs.length*u.n:=Bb _ (by omega);rw[Jd,NJ]at this;omega
   have:=I i y s;rw[vS,cell_of_row w b _ cur e (0,0) l]at this;rw[Ls,ak L];simpa using this
  .have:b=g:=by simpa [Value.ownBlock]using m
   subst this;exact⟨cz.1,cz.2.elim (fun h=>h) (fun h=>by cases h.1),D,cur,_,l⟩
 .have M:xs.length=0/\cap=0/\A=none:=by
   unfold Lv at d;refine⟨?_,?_,?_⟩
   .rcases aga xs.length with h|h
    .exact h
    .exact absurd (.inl h) d
   .rcases aga cap with h|h
    .exact h
    .exact absurd (.inr ⟨f,.inl h⟩) d
   .exact ao8 fun h=>d (.inr ⟨f,.inr h⟩)
  obtain⟨o,rfl,rfl⟩:=M;refine⟨[],⟨by simp[o],.inl ⟨by rw[o],o⟩⟩,fun j x k=>?_,⟨_,_,_,rfl⟩,fun g m=>by simp[Value.ownBlock]at m⟩;have:=(oC.1 k).1;omega
def abE {e:TypeId}{B ok l:Nat->Prop}(f:∀g,B g->ei.n<=g/\∃cur m,w.heap[g]?=some (.cells cur e m))(cz:∀g,ok g->¬B g->l g):∀{t:Ty} {x:t.D} {cs:List Value},Ln e t=false->Rd w ok t x cs->Rd w l t x cs
 |.int _,_,_,_,h=>h|.bool,_,_,_,h=>h|.str,_,_,_,h=>h|.unit,_,_,_,h=>h|.pair a b,_,_,d,h=>by simp only[Ln,Rq]at d;obtain⟨o,p,rfl,j,k⟩:=h;exact⟨o,p,rfl,abE f cz d.1 j,abE f cz d.2 k⟩
 |.sl I t,xs,cs,d,h=>by
  simp only[Ln,Rq]at d;obtain⟨A,cap,rfl,q,r,h⟩:=h;refine⟨A,cap,rfl,q,r,fun s=>?_⟩;obtain⟨b,u,rfl,hlt,v,n,y⟩:=h s;refine⟨b,u,rfl,hlt,cz b v fun z=>?_,n,fun C x D=>?_⟩
  .obtain⟨j,cur,m,k⟩:=f b z;obtain⟨_,K,L,i,_⟩:=n (.inl j);rw[k]at i;injection i with i
   injection i with _ E _
   rw[E,adW]at d;cases d.1
  .obtain⟨c,F,H⟩:=y C x D;exact⟨c,abE f cz d.2 F,H⟩
def ZP {V γ:Type}{f:V->γ}{n:Nat}:∀{l:List (Nat×V)},(look l n).isSome=true->(look (l.map fun p=>(p.1,f p.2)) n).isSome=true
 |[],h=>by cases h
 |(k,v)::l,h=>by
  simp only[look,sE]at h ⊢;split at h
  .rfl
  .exact ZP h
def az3 {e:TypeId}{x:Option eF}{b:eF}(h:azG e x=some b):x=some b/\Ln e b.t=false/\(b.w=false->Nat.beq b.e e=false):=by
 unfold azG at h;split at h
 .split at h
  .cases h
  .rename_i c;cases h;rw[Rq]at c;refine⟨rfl,c.1,fun d=>?_⟩;have:=c.2;rw[d]at this;simpa using this
 .cases h
def Inv.ayo (h:Inv w0 G st a w){d id:Nat}{e:TypeId}{u:Ty}(qt:awG w0 e){l:List AC}{j:Nat}{xs:List u.D}(qB:look st.bx d=some l)(hid:look st.bl id=none)(M:kj l j=some (.ro true e u xs))(Z:big u=true)(qd:Ln e u=false) :
  ∃E,Inv w0 E (ahl d id e u l j xs st) a w:=by
 obtain⟨cs,qC,qD,bf,hrel⟩:=h.bx d l qB;obtain⟨v,hv,qE⟩:=hrel.nth M;obtain⟨rows,qF,qG,qH,qe⟩:=aD2 Z qE
 let E:Gh:={G with own:=fun g=>if v.ownBlock=some g then some (.bl id) else G.own g,hv:=fun i=>if i=id then v else G.hv i}
 have qI:∀g,v.ownBlock=some g->ei.n<=g/\∃cur qf,w.heap[g]?=some (.cells cur e qf):=fun g q=>(qe g q).2.2
 have qK:∀{f:Bool} (g:Nat),RO G f g->¬v.ownBlock=some g->RO E f g:=fun g q qg=>⟨by show(if v.ownBlock=some g then some (Key.bl id) else G.own g)=none;rw[ag qg];exact q.1,q.2⟩
 have R:∀{f:Bool} {t:Ty} {x:t.D} {c:List Value},Ln e t=false->Rd w (RO G f) t x c->Rd w (RO E f) t x c:=fun qd qL=>abE (B:=fun g=>v.ownBlock=some g) qI qK qd qL
 have qh:∀{g:Nat} {k:Key},G.own g=some k->E.own g=some k:=by intro g k q;show(if v.ownBlock=some g then some (Key.bl id) else G.own g)=some k;rw[ag,q];intro qg;rw[(qe g qg).1]at q;cases q
 have qu:∀{i:Nat},(look st.bl i).isSome=true->i≠id:=by rintro i C rfl;rw[hid]at C;cases C
 have I:∀{i:Nat},(look st.bl i).isSome=true->E.hv i=G.hv i:=fun C=>ag (qu C)
 have qi:∀{b:Nat},(look st.bx b).isSome=true->(look (ahl d id e u l j xs st).bx b).isSome=true:=fun C=>l4 _ trivial (ZP C)
 have S:∀{i:Nat},(look st.bl i).isSome=true->(look (ahl d id e u l j xs st).bl i).isSome=true:=fun C=>l4 _ trivial (ZP C)
 have qv:∀{i:Nat} {b:eF},i≠id->look (ahl d id e u l j xs st).bl i=some (some b)->look st.bl i=some (some b)/\Ln e b.t=false/\(b.w=false->Nat.beq b.e e=false):=by intro i b T F;have F:look ((id,some ⟨e,u,xs,true,true⟩)::st.bl.map fun p=>(p.1,azG e p.2)) i=some (some b):=F;rw[ar,ag (fun h=>T h.symm)]at F;obtain⟨x,z,r⟩:=BX (azG e) F;obtain⟨rfl,H,qj⟩:=az3 r.symm;exact⟨z,H,qj⟩
 have W:∀(x:AC) (D:Value),bo G w st.bx st.bl x D->bo E w (ahl d id e u l j xs st).bx (ahl d id e u l j xs st).bl (aqU e x) D:=by
  intro x D o;cases x with
  |none=>trivial|int k n=>exact o|bool b=>exact o|str s=>exact o|nil=>exact o|any=>exact o|Qd f t x off=>trivial
  |ro f qk t xc =>
   simp only[aqU];split
   .trivial
   .rename_i qM;exact R (t:=.sl qk t) qM o
  |own i len =>
   cases len with
   |none=>exact⟨S o.1,by rw[I o.1];exact o.2.1,by rw[I o.1];exact o.2.2⟩
   |some m =>
    obtain⟨z,ql,A,n,cap,r,H,rfl⟩:=o;exact⟨S z,ql,A,n,cap,by rw[I z];exact r,H,rfl⟩
  |ptr b off=>exact⟨qi o.1,o.2⟩|fnp g b=>exact⟨qi o.1,o.2⟩
  |wS i n off =>
   obtain⟨z,qN,ql,g,qw,qO,cap,r,H,qj⟩:=o;exact⟨S z,qN,ql,g,qw,qO,cap,by rw[I z];exact r,H,fun b F=>qj b (qv (qu z) F).1⟩
 have qx:∀(x:CV) (D:Value),dL G w st.bx st.bl x D->dL E w (ahl d id e u l j xs st).bx (ahl d id e u l j xs st).bl (aBp e x) D:=by
  intro x D o;cases x with
  |c x=>exact W x D o
  |agg l =>
   obtain⟨qm,rfl,r⟩:=o;exact⟨qm,rfl,EC W r⟩
 have qy:∀(x:AV) (D:Value),gu G w st.bx st.bl x D->gu E w (ahl d id e u l j xs st).bx (ahl d id e u l j xs st).bl (ayn e x) D:=by
  intro x D o;cases x with
  |v x=>exact qx x D o
  |Qe l =>
   obtain⟨qm,rfl,r⟩:=o;exact⟨qm,rfl,EC qx r⟩
 have qn:look (ahl d id e u l j xs st).bl id=some (some ⟨e,u,xs,true,true⟩):=by show look ((id,some ⟨e,u,xs,true,true⟩)::st.bl.map fun p=>(p.1,azG e p.2)) id=_;rw[ar,ak rfl]
 have N:E.hv id=v:=ak rfl;refine⟨E,h.nw,h.rok,h.below,h.defers,h.size,qy _ _ h.sp,fun g b qw qz=>(by rw[qt.1 g]at qz;cases qz),fun t x o=>?_,fun X qP K=>?_,fun i b F=>?_,fun g k q=>?_⟩
 .obtain⟨y,qo,rfl⟩:=BX (ayn e) o;exact qy _ _ (h.tm t y qo)
 .have K:look ((d,Fw (l.map (aqU e)) j (.own id none))::st.bx.map fun p=>(p.1,p.2.map (aqU e))) X=some qP:=K;rw[ar]at K;by_cases qA:d=X
  .subst qA;rw[ak rfl]at K;cases K;refine⟨cs,qC,qD,qh bf,?_⟩;have qQ:cs.toList=cs.toList.set j v:=by obtain⟨hlt,qR⟩:=oC.1 hv;rw[<-qR];exact(aqA hlt).symm
   rw[qQ];refine bY.set (EC W hrel) j ?_;obtain⟨A,n,cap,qS⟩:=qH;exact⟨by rw[qn];rfl,⟨A,n,cap,N.trans qS⟩,N.symm⟩
  .rw[ag qA]at K;obtain⟨y,qo,rfl⟩:=BX (fun l:List AC=>l.map (aqU e)) K;obtain⟨qp,qk,z,r,H⟩:=h.bx X y qo;exact⟨qp,qk,z,qh r,EC W H⟩
 .by_cases T:i=id
  .subst T;rw[qn]at F;cases F;refine⟨fun _=>⟨rows,by rw[N];exact qF,fun g q=>?_,fun j x M=>?_⟩,(fun L=>by cases L),?_⟩
   .rw[N]at q;exact ak q
   .obtain⟨c,z,r⟩:=qG j x M;exact⟨c,R qd z,r⟩
   .unfold big at Z;have:=BQ Z;show 0<u.n;omega
  .obtain⟨z,r,H⟩:=qv T F;have C:(look st.bl i).isSome=true:=by rw[z];rfl
   have qq:=h.bl i b z;refine⟨fun L=>?_,fun L=>?_,qq.pos⟩
   .obtain⟨qp,qT,qW,qX⟩:=qq.wr L;rw[I C];refine⟨qp,qT,fun g q=>qh (qW g q),fun j x M=>?_⟩;obtain⟨c,qY,qZ⟩:=qX j x M;exact⟨c,R r qY,qZ⟩
   .rw[I C];refine R (t:=.sl b.e b.t) ?_ (qq.rd L);simp only[Ln,Rq];exact⟨H L,r⟩
 .by_cases Y:v.ownBlock=some g
  .have O:(if v.ownBlock=some g then some (Key.bl id) else G.own g)=some k:=q;rw[ak Y]at O;cases O;obtain⟨f1,f2,f3,cur,qf,f4⟩:=qe g Y;have hlt:=(sC.1 f4).1;refine⟨?_,hlt,by rw[qn];rfl,by rw[N];exact Y⟩;by_cases C:w0.w.heap.size<=g
   .exact .inl C
   .by_cases hfr:w0.fr g
    .exact .inr hfr
    .refine .inr (qt.2 g cur qf f3 (by rw[<-h.nw];exact f2) ?_);rw[<-h.below.block g (by omega) hfr];exact f4
  .have O:(if v.ownBlock=some g then some (Key.bl id) else G.own g)=some k:=q;rw[ag Y]at O;obtain⟨xa,xb,Q⟩:=h.own g k O;refine⟨xa,xb,?_⟩;cases k with
   |hid=>trivial|bx X=>exact⟨qi Q.1,Q.2⟩|bl i=>exact⟨S Q.1,by rw[I Q.1];exact Q.2⟩
def awH {e:TypeId}{u:Ty}:∀{l:List AC} {i j:Nat} {xs:List u.D},ati e u l i=some (j,xs)->∃d,j=i+d/\kj l d=some (.ro true e u xs):=by
 intro l
 induction l with
 |nil=>intro i j xs h;cases h
 |cons c l k =>
  intro i j xs h;unfold ati at h;split at h
  .cases ‹_::_=[]›
  .rename_i o t p q g;injection g with f b
   subst f b;split at h
   .rename_i m;cases aK m;split at h
    .rename_i n;obtain rfl:=Ty.beq_eq n;cases h;exact⟨0,rfl,rfl⟩
    .cases h
   .obtain⟨d,f,b⟩:=k h;exact⟨d+1,by omega,b⟩
  .rename_i g;injection g with f b
   subst b;obtain⟨d,f,b⟩:=k h;exact⟨d+1,by omega,b⟩
def akn {r:U}{s:List Nat}(f:∀e,NK s e=true->awG w0 e):∀{l:List (Tmp×TypeId×Ty)} {G:Gh} {st:St} {k:St->Option U},Inv w0 G st a w->aBq s l st k=some r->∃g cp,Inv w0 g cp a w/\cp.nt=st.nt/\k cp=some r
 |[],G,st,k,h,b=>⟨G,st,h,rfl,b⟩|(d,e,u)::l,G,st,k,h,b=>by
  unfold aBq at b;split at b
  .rename_i v;unfold ayo at b;split at b
   .rename_i B i hid;split at b
    .rename_i C xs x;obtain⟨j,b⟩:=aT b;rw[aE]at j;obtain⟨D,t,c⟩:=awH x;rw[vS]at t;subst t;obtain⟨g,m⟩:=h.ayo (f e v) i hid c j.1 (by simpa using j.2);obtain⟨n,o,c,p,q⟩:=akn f m b;exact⟨n,o,c,p,q⟩
    .cases b
   .cases b
  .unfold aBo at b;split at b
   .rename_i cells i;split at b
    .rename_i y z;obtain⟨A,b⟩:=aT b;obtain⟨g,m⟩:=h.frz i z A;obtain⟨n,o,c,p,q⟩:=akn f m b;exact⟨n,o,c,by rw[p,aBP,(Fz cells st).nt],q⟩
    .cases b
   .cases b
end
end Go.Am
