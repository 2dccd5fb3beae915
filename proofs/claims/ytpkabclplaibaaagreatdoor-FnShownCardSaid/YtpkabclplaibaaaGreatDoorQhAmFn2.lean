/- No condition. -/
import Derived.Test.YtpkabclplaibaaaGreatDoorQhAmFn
set_option linter.all false
namespace Go.Am
open Go.RowKit
variable [ds]
section
variable {N:Nat} {P:Program} {C:FuncId->Option Any} {w0:di} {w:World} {G:Gh} {st:St} {a:Act}
def L7 (ok nw:Nat->Prop)(own:Nat->Option Nat)(L:List (Nat×dD×Value))(B:Option (Nat×Nat×List AC)):Gh :=
 {nw:=nw,ok:=ok,hb:=fun _=>match B with|some (_,b,_)=>b|none=>0,hv:=fun i=>hvL L i,own:=fun g=>match own g with|none=>none|some _=>nZ L B g}
def JB:Option (Nat×Nat×List AC)->List (Nat×List AC)
 |none=>[]|some (d,_,l)=>[(d,l)]
def Ui (L:List (Nat×dD×Value)):List (Nat×Option dD):=L.map fun z=>(z.1,some z.2.1)
structure acM (w:World) (ok nw:Nat->Prop) (own:Nat->Option Nat) (L:List (Nat×dD×Value)) (B:Option (Nat×Nat×List AC)):Prop where
 row:∀z∈L,z.2.1.w=true/\0<z.2.1.t.n/\(∃rows,w.ownsRow 0 z.2.1.e z.2.1.t.n z.2.2 z.2.1.xs.length rows/\dx w (fun g=>own g=none/\(nw g\/(z.2.1.f=false/\ok g))) z.2.1.t rows z.2.1.xs)/\∀g,z.2.2.ownBlock=some g->(own g).isSome=true
 inj:∀z∈L,∀z'∈L,∀g,z.2.2.ownBlock=some g->z'.2.2.ownBlock=some g->z=z'
 uniq:∀z∈L,∀z'∈L,z.1=z'.1->z=z'
 box:∀d g l,B=some (d,g,l)->(own g).isSome=true/\L=[]/\∃cs e f t x,w.heap[g]?=some (.cells cs e (0,0))/\l=ex f t x/\Rd w (fun g=>own g=none/\(nw g\/(f=false/\ok g))) t x cs.toList
def JC {ok nw:Nat->Prop}{own:Nat->Option Nat}{L:List (Nat×dD×Value)}{B:Option (Nat×Nat×List AC)}{f:Bool}{g:Nat}(h:own g=none/\(nw g\/(f=false/\ok g))):RO (L7 ok nw own L B) f g :=
 ⟨by simp[L7,h.1],h.2⟩
def aa6 {ok nw:Nat->Prop}{own:Nat->Option Nat}{W:Nat->Prop}(X:Handed w W ok nw own){R:di}(Y:R.hd=fun _=>none)(A:R.w=w)(cR:R.ok=ok)(Rz:R.nw=nw){L:List (Nat×dD×Value)}{B:Option (Nat×Nat×List AC)}
  (Ud:∀g k,(L7 ok nw own L B).own g=some k->R.fr g) (j:acM w ok nw own L B) {nt:Nat} {tm:List (Nat×AV)} {sp:AV} (Z:a.defers=[]) (qa:a.tmps.size=nt)
  (qb:eK (L7 ok nw own L B) w (JB B) (Ui L) sp R.pv) (qd:∀t v,look tm t=some v->eK (L7 ok nw own L B) w (JB B) (Ui L) v (a.tmps.getD t undef)) :
  Inv R (L7 ok nw own L B) {nt:=nt,tm:=tm,bx:=JB B,bl:=Ui L,sp:=sp} a w:=by
 subst A;have qe:∀z∈L,∀g,z.2.2.ownBlock=some g->(L7 ok nw own L B).own g=some (.bl z.1):=by
  intro z p g h;have r:=(j.row z p).2.2.2 g h;obtain⟨D,E⟩:=ek.1 r;have qf:B=none:=by
   cases B with
   |none=>rfl
   |some q =>
    obtain⟨d,s,l⟩:=q;have:=(j.box d s l rfl).2.1;rw[this]at p;simp at p
  subst qf;simp only[L7,E,nZ];unfold EU;cases i:L.find? fun z=>z.2.2.ownBlock==some g with
  |none =>
   have:=aec.1 i z p;simp[h]at this
  |some y =>
   have m:=Tf i;have n:=Mv i;rw[<-j.inj z p y n g h (by simpa using m)];rfl
 refine⟨Rz.symm,cR.symm,dh.refl _ _,Z,qa,qb,fun g b qj Q=>(by rw[Y]at Q;cases Q),qd,fun d l o=>?_,fun id b qg=>?_,fun g k c=>?_⟩
 .cases B with
  |none=>simp[JB,look]at o
  |some q =>
   obtain⟨F,s,qh⟩:=q;simp only[JB,ai]at o;by_cases H:F=d
   .rw[aj H]at o;cases o;subst H;obtain⟨m,n,cs,e,f,t,x,I,K,S⟩:=j.box F s l rfl;refine⟨cs,e,I,?_,?_⟩
    .obtain⟨D,E⟩:=ek.1 m;simp[L7,E,nZ]
    .rw[K];exact Jl (eL (fun g h=>JC (f:=f) h) S)
   .rw[ag H]at o;simp[look]at o
 .obtain⟨v,M⟩:=PH qg;obtain⟨m,n,⟨rows,I,K⟩,S⟩:=j.row _ M;have T:(L7 ok nw own L B).hv id=v:=LF j.uniq M;refine⟨fun _=>⟨rows,by rw[T];exact I,fun g h=>?_,ic (fun g h=>JC h) K⟩,fun A=>?_,n⟩
  .rw[T]at h;exact qe _ M g h
  .rw[show b.w=true from m]at A;cases A
 .have qi:=c;unfold L7 at c;dsimp only at c;cases r:own g with
  |none=>rw[r]at c;cases c
  |some D =>
   rw[r]at c;dsimp only at c;refine⟨.inr (Ud g k qi),(X.aS g D r).2.1,?_⟩;have rows:EU L g=some k->alI (L7 ok nw own L B) (JB B) (Ui L) g k:=by
    intro u;unfold EU at u;cases i:L.find? fun z=>z.2.2.ownBlock==some g with
    |none=>rw[i]at u;cases u
    |some y =>
     rw[i]at u;cases u;have m:=Tf i;have n:=Mv i;refine⟨gx n,?_⟩;rw[show(L7 ok nw own L B).hv y.1=y.2.2 from LF j.uniq n];simpa using m
   cases B with
   |none=>have:=rows c;cases k with|bx d=>exact this|bl id=>exact this|hid=>trivial
   |some q =>
    obtain⟨F,s,qh⟩:=q;simp only[nZ]at c;by_cases O:g=s
    .rw[aj O]at c;cases c;exact⟨by simp[JB,ai],by simp[L7,O]⟩
    .rw[ag O]at c;have:=rows c;cases k with|bx d=>exact this|bl id=>exact this|hid=>trivial
def ai9 {f:Bool}{G:Gh}{bx:List (Nat×List AC)}{bl:List (Nat×Option dD)}{p:Ty×Bool}{x:p.1.D}{v:Value}(b:p.2=true\/p.1.n=1)(h:PF w (RO G f) p x v) :
  da G w bx bl (match p.2 with|true=>.agg (ex f p.1 x)|false=>.c (match ex f p.1 x with|[c]=>c|_=>.none)) v:=by
 have:=u3 (f:=f) (bx:=bx) (bl:=bl) (rs:=[p]) (x:=(x,())) (vs:=[v]) (by simp only[db,az,hh];exact⟨b.imp_right fun h=>by rw[h];rfl,trivial⟩) ⟨v,[],rfl,h,rfl⟩
 exact this.1
def Oh {ok nw:Nat->Prop}{own:Nat->Option Nat}{qf:Nat->Prop}(D:Handed w qf ok nw own){g0:Nat}{u:Value}{pm:PM}:∀(i:Nat) (ps:List (Ty×Bool)) (x:Args ps) (vs:List Value),db ps=true->tY w ok nw own g0 pm i ps x vs u ->
  ∃L B,acM w ok nw own L B/\(exP pm i ps x).2.2.1=Ui L/\(exP pm i ps x).2.2.2=JB B/\bD (da (L7 ok nw own L B) w (JB B) (Ui L)) (exP pm i ps x).1 vs/\da (L7 ok nw own L B) w (JB B) (Ui L) (exP pm i ps x).2.1 u /\
   (pm=.rd->L=[]/\B=none)
 |0,[],x,vs,_,h=>h.elim|_+1,[],x,vs,_,h=>h.elim|0,p::ps,x,vs,t,h=>by
  obtain⟨M,rfl,F,O⟩:=h;simp only[db,az,hh]at t;have H:p.2=true\/p.1.n=1:=t.1.imp_right aA;have rest:∀L B,bD (da (L7 ok nw own L B) w (JB B) (Ui L)) (exF false ps x.2) M:=fun L B =>
   u3 t.2 (dy (fun g m=>JC ⟨D.cR g m,.inr ⟨rfl,m⟩⟩) O)
  cases pm with
  |rd =>
   have E:PF w ok p x.1 u:=F;have r:da (L7 ok nw own [] none) w (JB none) (Ui []) (apE .rd p x.1).1 u:=ai9 (f:=false) H (by obtain⟨cs,r,I⟩:=E;exact⟨cs,eL (fun g m=>JC (f:=false) ⟨D.cR g m,.inr ⟨rfl,m⟩⟩) r,I⟩)
   exact⟨[],none,⟨fun z j=>by simp at j,fun z j=>by simp at j,fun z j=>by simp at j,fun d g l o=>by cases o⟩,rfl,rfl,⟨r,rest [] none⟩,r,fun _=>⟨rfl,rfl⟩⟩
  |own f =>
   have E:ai0 w (fun g=>own g=none/\(nw g\/(f=false/\ok g))) own p x.1 0 u:=F;obtain⟨L,y,Z⟩:=alE (id:=62500) (f:=f) E H;have Q:acM w ok nw own L none:=by
    refine⟨fun z j=>?_,fun z j qa qb g m qg=>?_,y.uniq,fun d g l o=>by cases o⟩
    .obtain⟨r,I,q⟩:=y.rows z j;refine⟨q.wr,q.pos,?_,fun g m=>by rw[q.kA g m];rfl⟩;obtain⟨rows,K,R⟩:=q.row;exact⟨rows,K,RD (fun qh g m=>by rw[q.nf,qh,Bool.or_false];exact m) R⟩
    .obtain⟨r,_,q⟩:=y.rows z j;obtain⟨K,_,S⟩:=y.rows qa qb;have qi:=q.kA g m;have qd:=S.kA g qg;rw[qi]at qd;have:=dI qd;exact y.uniq z j qa qb (by omega)
   have hrel:∀c v,ns L c v->a7 (L7 ok nw own L none) w (JB none) (Ui L) c v:=by
    intro c v A;cases c with
    |own i len =>
     cases len with
     |some l=>exact A.elim
     |none =>
      obtain⟨b,T⟩:=A;have qe:(L7 ok nw own L none).hv i=v:=LF Q.uniq T;refine⟨gx T,?_,qe.symm⟩;rw[qe];obtain⟨_,_,⟨rows,qj,_⟩,_⟩:=Q.row _ T;rcases qj.2 with ⟨o,_⟩|⟨qm,cap,cur,o,_⟩
      .exact⟨_,_,_,o⟩
      .exact⟨_,_,_,o⟩
    |int k n=>exact A|bool b=>exact A|str s=>exact A|_=>exact A.elim
   exact⟨L,none,Q,y.q,rfl,⟨Ju hrel Z,rest L none⟩,Ju hrel Z,fun h=>by cases h⟩
  |box =>
   obtain⟨W,aS,cs,e,X,Y⟩:=(show u=.pointer (some ⟨g0,0,none⟩)/\(own g0).isSome=true/\∃cs e,w.heap[g0]?=some (.cells cs e (0,0))/\Rd w ok p.1 x.1 cs.toList from F);have hrel:da (L7 ok nw own [] (some (4000000,g0,ex false p.1 x.1))) w (JB (some (4000000,g0,ex false p.1 x.1))) (Ui []) (.c (.ptr 4000000 0)) u:=⟨by simp[JB,ai],W⟩;refine⟨[],some (4000000,g0,ex false p.1 x.1),⟨fun z j=>by simp at j,fun z j=>by simp at j,fun z j=>by simp at j,fun d g l o=>?_⟩,rfl,rfl,⟨hrel,rest _ _⟩,hrel,fun h=>by cases h⟩;cases o;exact⟨aS,rfl,cs,e,false,p.1,x.1,X,rfl,eL (fun g m=>⟨D.cR g m,.inr ⟨rfl,m⟩⟩) Y⟩
  |cur =>
   obtain⟨W,aS,cs,e,X,Y⟩:=(show u=.pointer (some ⟨g0,0,none⟩)/\(own g0).isSome=true/\∃cs e,w.heap[g0]?=some (.cells cs e (0,0))/\Rd w (fun g=>own g=none/\nw g) p.1 x.1 cs.toList from F);have hrel:da (L7 ok nw own [] (some (4000000,g0,ex true p.1 x.1))) w (JB (some (4000000,g0,ex true p.1 x.1))) (Ui []) (.c (.ptr 4000000 0)) u:=⟨by simp[JB,ai],W⟩;refine⟨[],some (4000000,g0,ex true p.1 x.1),⟨fun z j=>by simp at j,fun z j=>by simp at j,fun z j=>by simp at j,fun d g l o=>?_⟩,rfl,rfl,⟨hrel,rest _ _⟩,hrel,fun h=>by cases h⟩;cases o;exact⟨aS,rfl,cs,e,true,p.1,x.1,X,rfl,eL (fun g m=>⟨m.1,.inl m.2⟩) Y⟩
 |i+1,p::ps,x,vs,t,h=>by obtain⟨v,M,rfl,E,O⟩:=h;simp only[db,az,hh]at t;have H:p.2=true\/p.1.n=1:=t.1.imp_right aA;obtain⟨L,B,r,I,q,K,R,S⟩:=Oh D i ps x.2 M t.2 O;refine⟨L,B,r,I,q,⟨ai9 (f:=false) H ?_,K⟩,R,S⟩;obtain⟨cs,qk,ql⟩:=E;exact⟨cs,eL (fun g m=>JC (f:=false) ⟨D.cR g m,.inr ⟨rfl,m⟩⟩) qk,ql⟩
def acN {pm:PM}:∀(i:Nat) (ps:List (Ty×Bool)) (x:Args ps),i<ps.length->(exP pm i ps x).1.length=ps.length
 |0,p::ps,x,_=>by
  have:∀{f:Bool} {rs:List (Ty×Bool)} {y:Args rs},(exF f rs y).length=rs.length:=by
   intro f rs
   induction rs with
   |nil=>intro y;rfl|cons a l b=>intro y;simp[exF,b]
  simp[exP,this]
 |i+1,p::ps,x,h=>by have:=acN (pm:=pm) i ps x.2 (by simpa using h);simp[exP,this]
 |0,[],_,h=>by simp at h
 |_+1,[],_,h=>by simp at h
def j5.aeG {w:World}{okE WD:Nat->Prop}{own bm:Nat->Option Nat}(m:∀g j,own g=some j->bm g=some j)(n:∀g,okE g->WD g):∀{rs:List (Ty×Bool)} {x:Args rs} {j:Nat} {vs:List Value},j5 w okE own rs x j vs->j5 w WD bm rs x j vs:=by
 have o:∀{t:Ty} {x:t.D} {j:Nat} {c:List Value},FrC w okE own t x j c->FrC w WD bm t x j c:=by
  intro t
  induction t with
  |int k=>exact fun h=>h
  |bool=>exact fun h=>h
  |str=>exact fun h=>h
  |unit=>exact fun h=>h
  |pair a b p q =>
   intro x j c h;obtain⟨r,s,e,d,f⟩:=h;exact⟨r,s,e,p d,q f⟩
  |sl e t _ =>
   intro x j c h;obtain⟨v,rows,d,f,i,u,y⟩:=h;exact⟨v,rows,d,f,i,fun g z=>m g _ (u g z),ic n y⟩
 intro rs
 induction rs with
 |nil=>exact fun h=>h
 |cons a l A =>
  intro x j vs h;obtain⟨v,B,e,⟨c,d,f⟩,i⟩:=h;exact⟨v,B,e,⟨c,o d,f⟩,A i⟩
def WW (h:Inv w0 G st a w){p:Ty×Bool}{c:List AC}{cs:Array Value}(hrel:bD (a7 G w st.bx st.bl) c cs.toList)(j:pG c=true){y:p.1.D}(k:Ua st p (.agg c)=some y){ok:Nat->Prop}
  (cR:∀f e t xs,AC.ro f e t xs∈c->∀g,RO G f g->ok g):cT w ok [p] (y,()) [.agg cs]:=by
 refine⟨_,[],rfl,ag4 h (x:=.agg c) (u:=.agg cs) ⟨cs,rfl,hrel⟩ (fun e t o v xs i l m=>?_) k,rfl⟩;refine gi h l m (fun id len b d _=>?_) (fun f e u n d=>?_)
 .subst d;exact absurd i (RI j id len)
 .subst d;exact cR f e u n i
def aeH (l m:List CV):aF (l++m)=aF l++aF m:=by
 induction l with
 |nil=>rfl|cons c l b=>simp[aF,b]
def JD (o:Inv w0 G st a w){w1:World}{ok nw:Nat->Prop}{own:Nat->Option Nat}{g0:Nat}{u:Value}(Rz:G.nw=nw)(cR:G.ok=ok)(qa:w0.pv=u)(I:∀g k,G.own g=some k->w1.heap.size<=g\/(own g).isSome=true)
  {con:CW} (qn:con.pm=.rd->∀g k,G.own g=some k->w1.heap.size<=g) (qi:con.pm=.box\/con.pm=.cur->u=.pointer (some ⟨g0,0,none⟩)) {l:List CV} {us:List Value} (B:bD (da G w st.bx st.bl) l us) {r:Args con.rs×Args con.qs}
  (j:ZM st con.pm con.rs con.qs con.m l=some r):N6 con w1 w ok nw own g0 u r us:=by
 obtain⟨qy,i,pm,rs,m,qz,g⟩:=con;dsimp only at *;subst Rz;subst cR;have qb:∀(bm:Nat->Option Nat),(∀g,G.own g=none->bm g=none)->∀g,RO G (m2 m) g->bm g=none/\(G.nw g\/(m2 m=false/\G.ok g)):=fun bm h g d=>⟨h g d.1,d.2⟩
 unfold ZM at j;cases pm with
 |rd =>
  dsimp only at j;split at j
  .split at j
   .rename_i qj n;split at j
    .rename_i _ b;split at j
     .rename_i c M;split at j
      .rename_i z;rw[az]at z;split at j
       .rename_i D s;cases j;obtain⟨cs,e,K,aS,hrel⟩:=o.bx b c M;obtain⟨v,rfl⟩:∃v,us=[v]:=by
         cases us with
         |nil=>exact B.elim
         |cons v us =>
          cases us with
          |nil=>exact⟨v,rfl⟩|cons _ _=>exact B.2.elim
        have qk:v=.pointer (some ⟨G.hb b,0,none⟩):=B.1.2;have qd:=qn rfl _ _ aS;refine⟨fun g=>if g=G.hb b then some 0 else none,fun g L d=>?_,trivial,?_⟩
        .dsimp only at d;split at d
         .rename_i F;exact .inl (F▸qd)
         .cases d
        .have key:cT w (fun g=>(if g=G.hb b then some 0 else none)=(none:Option Nat)/\(G.nw g\/(qj=false/\G.ok g))) rs D [.agg cs]:=by
          match rs,D,s with
          |[p],D,s =>
           simp only[tT]at s;split at s
           .rename_i y qo;cases s;refine WW o hrel z.2 qo fun f e t xs n g d=>⟨?_,?_⟩
            .have:g≠G.hb b:=by rintro rfl;have:=d.1;rw[aS]at this;cases this
             simp[this]
            .have:=aa4 _ z.1 _ n;refine d.2.imp_right fun h=>⟨?_,h.2⟩
             cases qj with
             |false=>rfl
             |true =>
              have S:=this rfl;rw[S]at h;cases h.1
           .cases s
          |[],_,s=>simp[tT]at s
          |_::_::_,_,s =>
           simp only[tT]at s;split at s<;>cases s
         unfold rdM at n;split at n
         .cases n;exact⟨G.hb b,cs,e,by rw[qk],qd,by simp,K,dy (fun g d=>⟨d.1,d.2.elim (fun h=>h) fun h=>by cases h.1⟩) key⟩
         .cases n;exact⟨G.hb b,cs,e,by rw[qk],qd,by simp,K,dy (fun g d=>⟨d.1,d.2.imp_right fun h=>h.2⟩) key⟩
         .cases n
       .cases j
      .cases j
     .cases j
    .cases j
   .cases j
  .cases j
 |own f =>
  dsimp only at j;split at j
  .rename_i n;rw[hh]at n;have A:m=2\/m=3:=n.imp aA aA;split at j
   .split at j
    .rename_i z;rw[az]at z;split at j
     .rename_i D s;cases j;have O:=(Ag A (qb (bG G (aF l)) fun g d=>by simp[bG,d]) o (aF l) [] rs l us D B (pre:=[]) (seen:=[]) (by simp) (fun id len n=>by simp at n) (by rw[fo];exact z.1) z.2 s).1;refine⟨bG G (aF l),fun g L d=>?_,rfl,?_⟩
      .unfold bG at d;split at d
       .rename_i id hid;exact I g _ hid
       .cases d
      .rcases A with rfl|rfl<;>exact O
     .cases j
    .cases j
   .rename_i q;split at j
    .rename_i c M;split at j
     .rename_i z;simp only[az]at z;obtain⟨⟨E,T⟩,W⟩:=z;split at j
      .rename_i D qe s Q;cases j;have qp:da G w st.bx st.bl c u:=by have:=o.sp;rw[M,qa]at this;exact this
       rw[aeH]at E;obtain⟨O,qq,R,x,qt⟩:=Ag A (qb (bG G (aF l++aF [c])) fun g d=>by simp[bG,d]) o (aF l++aF [c]) (aF [c]) rs l us D B (pre:=[]) (seen:=[]) (by simp) (fun id len n=>by simp at n) E T s;obtain⟨ql,_⟩:=Ag A (qb (bG G (aF l++aF [c])) fun g d=>by simp[bG,d]) o (aF l++aF [c]) [] [q] [c] [u] qe ⟨qp,trivial⟩ (pre:=aF l) (seen:=qq) (by simp) (fun id len n=>x id len (by simpa using n)) (by rw[fo];exact R) W Q;rw[qt]at ql;refine⟨bG G (aF l++aF [c]),fun g L d=>?_,ql,?_⟩
       .unfold bG at d;split at d
        .rename_i id hid;exact I g _ hid
        .cases d
       .rcases A with rfl|rfl<;>exact O
      .cases j
     .cases j
    .cases j
   .cases j
  .cases j
 |box =>
  dsimp only at j;generalize qf:st.sp=qu at j;split at j
  .rename_i b q;have qg:=qf;split at j
   .rename_i c M;split at j
    .rename_i z;simp only[az]at z;obtain⟨⟨⟨X,E⟩,T⟩,W⟩:=z;split at j
     .rename_i D qe s Q;cases j;obtain⟨cs,e,K,aS,hrel⟩:=o.bx b c M;have qh:G.hb b=g0:=by
       have R:=o.sp;rw[qg,qa,qi (.inl rfl)]at R;have x:Value.pointer (some ⟨g0,0,none⟩)=.pointer (some ⟨G.hb b,0,none⟩):=R.2;injection x with x
       injection x with x
       injection x with x
       exact x.symm
      subst qh;have H:∀g,G.own g=none->g≠G.hb b:=by rintro g d rfl;rw[aS]at d;cases d
      by_cases n:m<=1
      ·
       refine⟨fun g=>if g=G.hb b then some (Tq rs) else none,fun g L d=>?_,⟨⟨Tq rs,by simp,bq _⟩,cs,e,K,?_⟩,?_⟩
       .dsimp only at d;split at d
        .rename_i F;exact F▸I _ _ aS
        .cases d
       .refine WW o hrel X Q fun f e t xs n g d=>⟨by simp[H g d.1],d.2.imp_right fun h=>h.2⟩
       .have A:m=0\/m=1:=by omega
        have Y:∀g id,G.own g=some (.bl id)->g≠G.hb b:=by rintro g id d rfl;rw[aS]at d;cases d
        rcases A with rfl|rfl
        .exact RJ o B E s (fun f g _ d=>⟨by simp[H g d.1],d.2.imp_right fun h=>h.2⟩) (fun g id d=>⟨by simp[Y g id d],.inl (o.Jk d)⟩) (.inl rfl)
        .exact RJ o B E s (fun f g S d=>⟨by simp[H g d.1],d.2.elim (fun h=>h) fun h=>by rw[S (by simp)]at h;cases h.1⟩) (fun g id d=>⟨by simp[Y g id d],o.Jk d⟩) (.inr rfl)
      .have A:m=2\/m=3:=by have:=tU W;omega
       have qv:q0 st rs l=true:=by rcases A with rfl|rfl<;>exact T
       have O:=(Ag A (okE:=fun g=>G.own g=none/\(G.nw g\/(m2 m=false/\G.ok g))) (fun g d=>⟨d.1,d.2⟩) o (aF l) [] rs l us D B (pre:=[]) (seen:=[]) (by simp) (fun id len n=>by simp at n) (by rw[fo];exact E) qv s).1;have Z:∀g,G.own g=none->(if g=G.hb b then some (Tq rs) else bG G (aF l) g)=none:=by intro g d;rw[ag (H g d)];simp[bG,d]
       refine⟨fun g=>if g=G.hb b then some (Tq rs) else bG G (aF l) g,fun g L d=>?_,⟨⟨Tq rs,by simp,bq _⟩,cs,e,K,?_⟩,?_⟩
       .dsimp only at d;split at d
        .rename_i F;exact F▸I _ _ aS
        .unfold bG at d;split at d
         .rename_i id hid;exact I g _ hid
         .cases d
       .refine WW o hrel X Q fun f e t xs n g d=>⟨Z g d.1,d.2.imp_right fun h=>h.2⟩
       .have qw:=j5.aeG (bm:=fun g=>if g=G.hb b then some (Tq rs) else bG G (aF l) g) (WD:=fun g=>(if g=G.hb b then some (Tq rs) else bG G (aF l) g)=none/\(G.nw g\/(m2 m=false/\G.ok g))) (fun g L d=>by
         have:g≠G.hb b:=by rintro rfl;simp[bG,aS]at d
         simp[this,d]) (fun g d=>⟨Z g d.1,d.2⟩) O
        rcases A with rfl|rfl<;>exact qw
     .cases j
    .cases j
   .cases j
  .cases j
 |cur =>
  dsimp only at j;generalize qf:st.sp=qu at j;split at j
  .rename_i b q;have qg:=qf;split at j
   .rename_i c M;split at j
    .rename_i z;simp only[az]at z;obtain⟨⟨⟨⟨X,qx⟩,E⟩,T⟩,W⟩:=z;split at j
     .rename_i D qe s Q;cases j;obtain⟨cs,e,K,aS,hrel⟩:=o.bx b c M;have qh:G.hb b=g0:=by
       have R:=o.sp;rw[qg,qa,qi (.inr rfl)]at R;have x:Value.pointer (some ⟨g0,0,none⟩)=.pointer (some ⟨G.hb b,0,none⟩):=R.2;injection x with x
       injection x with x
       injection x with x
       exact x.symm
      subst qh;have H:∀g,G.own g=none->g≠G.hb b:=by rintro g d rfl;rw[aS]at d;cases d
      have qm:∀f e t xs,AC.ro f e t xs∈c->f=true:=fun f e t xs n=>Ff qx f e t xs n
      by_cases n:m<=1
      .refine⟨fun g=>if g=G.hb b then some (Tq rs) else none,fun g L d=>?_,⟨⟨Tq rs,by simp,bq _⟩,cs,e,K,?_⟩,?_⟩
       .dsimp only at d;split at d
        .rename_i F;exact F▸I _ _ aS
        .cases d
       .refine WW o hrel X Q fun f e t xs n g d=>⟨by simp[H g d.1],d.2.elim (fun h=>h) fun h=>by rw[qm f e t xs n]at h;cases h.1⟩
       .have A:m=0\/m=1:=by omega
        have Y:∀g id,G.own g=some (.bl id)->g≠G.hb b:=by rintro g id d rfl;rw[aS]at d;cases d
        rcases A with rfl|rfl
        .exact RJ o B E s (fun f g _ d=>⟨by simp[H g d.1],d.2.imp_right fun h=>h.2⟩) (fun g id d=>⟨by simp[Y g id d],.inl (o.Jk d)⟩) (.inl rfl)
        .exact RJ o B E s (fun f g S d=>⟨by simp[H g d.1],d.2.elim (fun h=>h) fun h=>by rw[S (by simp)]at h;cases h.1⟩) (fun g id d=>⟨by simp[Y g id d],o.Jk d⟩) (.inr rfl)
      .have A:m=2:=by have:=tU W;omega
       subst A;have O:=(Ag (.inl rfl) (okE:=fun g=>G.own g=none/\(G.nw g\/(m2 2=false/\G.ok g))) (fun g d=>⟨d.1,d.2⟩) o (aF l) [] rs l us D B (pre:=[]) (seen:=[]) (by simp) (fun id len n=>by simp at n) (by rw[fo];exact E) T s).1;have Z:∀g,G.own g=none->(if g=G.hb b then some (Tq rs) else bG G (aF l) g)=none:=by intro g d;rw[ag (H g d)];simp[bG,d]
       refine⟨fun g=>if g=G.hb b then some (Tq rs) else bG G (aF l) g,fun g L d=>?_,⟨⟨Tq rs,by simp,bq _⟩,cs,e,K,?_⟩,?_⟩
       .dsimp only at d;split at d
        .rename_i F;exact F▸I _ _ aS
        .unfold bG at d;split at d
         .rename_i id hid;exact I g _ hid
         .cases d
       .refine WW o hrel X Q fun f e t xs n g d=>⟨Z g d.1,d.2.elim (fun h=>h) fun h=>by rw[qm f e t xs n]at h;cases h.1⟩
       .exact j5.aeG (bm:=fun g=>if g=G.hb b then some (Tq rs) else bG G (aF l) g) (WD:=fun g=>(if g=G.hb b then some (Tq rs) else bG G (aF l) g)=none/\(G.nw g\/(m2 2=false/\G.ok g))) (fun g L d=>by
         have:g≠G.hb b:=by rintro rfl;simp[bG,aS]at d
         simp[this,d]) (fun g d=>⟨Z g d.1,d.2⟩) O
     .cases j
    .cases j
   .cases j
  .cases j
def KQ (w:World)(a:Ty)(g:Nat):Prop:=ds.n<=g->∃e cur b,w.heap[g]?=some (.cells cur e b)/\CZ e a=true
def aja {ok:Nat->Prop}{a:Ty}:∀{t:Ty} {x:t.D} {cs:List Value},(∀e,CZ e t=true->CZ e a=true)->Rd w ok t x cs->Rd w (fun g=>ok g/\KQ w a g) t x cs
 |.int _,_,_,_,h=>h|.bool,_,_,_,h=>h|.str,_,_,_,h=>h|.unit,_,_,_,h=>h|.pair b c,_,_,d,h=>by obtain⟨k,l,rfl,m,i⟩:=h;exact⟨k,l,rfl,aja (fun e f=>d e (by simp[CZ,f])) m,aja (fun e f=>d e (by simp[CZ,f])) i⟩
 |.sl e t,xs,cs,d,h=>by
  obtain⟨A,cap,rfl,n,o,h⟩:=h;refine⟨A,cap,rfl,n,o,fun p=>?_⟩;obtain⟨b,q,rfl,hlt,r,j,s⟩:=h p;refine⟨b,q,rfl,hlt,⟨r,fun u=>?_⟩,j,fun v x y=>?_⟩
  .obtain⟨_,cur,z,i,_⟩:=j (.inl u);exact⟨e,cur,z,i,d e (by simp[CZ])⟩
  .obtain⟨c,B,D⟩:=s v x y;exact⟨c,aja (fun e f=>d e (by simp[CZ,f])) B,D⟩
def nwQ (w:World)(nw:Nat->Prop)(own:Nat->Option Nat)(g0:Nat)(a:Ty)(g:Nat):Prop:=w.heap.size<=g\/g=g0\/(own g=none/\nw g/\KQ w a g)
def acO (own:Nat->Option Nat)(g0 g:Nat):Option Nat:=if g=g0 then own g else none
def aa7 {own:Nat->Option Nat}{g0 g:Nat}(h:own g=none):acO own g0 g=none:=by
 unfold acO;split
 .exact h
 .rfl
def aeI {ok nw:Nat->Prop}{own:Nat->Option Nat}{g0:Nat}{u:Value}{a:Ty×Bool}:∀(i:Nat) (ps:List (Ty×Bool)) (x:Args ps) (vs:List Value),gU ps i=some a->tY w ok nw own g0 .cur i ps x vs u->tY w ok (nwQ w nw own g0 a.1) (acO own g0) g0 .cur i ps x vs u
 |0,[],_,_,h,_=>by cases h
 |_+1,[],_,_,h,_=>by cases h
 |0,p::ps,x,vs,h,d=>by cases h;obtain⟨b,e,⟨f,j,cs,k,l,m⟩,n⟩:=d;refine⟨b,e,⟨f,by simp[acO,j],cs,k,l,?_⟩,n⟩;exact eL (fun g c=>⟨aa7 c.1.1,.inr (.inr ⟨c.1.1,c.1.2,c.2⟩)⟩) (aja (fun _ h=>h) m)
 |i+1,p::ps,x,vs,h,d=>by obtain⟨v,b,e,f,j⟩:=d;exact⟨v,b,e,f,aeI i ps x.2 b h j⟩
def RL {ok nw:Nat->Prop}{own:Nat->Option Nat}{g0:Nat}{u:Value}:∀(i:Nat) (ps:List (Ty×Bool)) (x:Args ps) (vs:List Value),tY w ok nw own g0 .cur i ps x vs u->(own g0).isSome=true/\u=.pointer (some ⟨g0,0,none⟩)
 |0,[],_,_,h=>h.elim|_+1,[],_,_,h=>h.elim|0,p::ps,x,vs,b=>by obtain⟨d,e,⟨f,c,_⟩,g⟩:=b;exact⟨c,f⟩
 |i+1,p::ps,x,vs,b=>by obtain⟨v,d,e,f,c⟩:=b;exact RL i ps x.2 d c
def ajb:∀(i:Nat) (ps:List (Ty×Bool)) (x:Args ps),i<ps.length->(exP .cur i ps x).2.1=.c (.ptr 4000000 0)
 |0,p::ps,x,_=>rfl|i+1,p::ps,x,h=>ajb i ps x.2 (by simpa using h)
 |0,[],_,h=>by simp at h
 |_+1,[],_,h=>by simp at h
def akt {con:CW}(o:con.pm=.cur){w':World}{ok nw:Nat->Prop}{own:Nat->Option Nat}{g0:Nat}{u:Value}{a:Ty}{r:Args con.rs×Args con.qs}{us:List Value}(f:∀g,nwQ w nw own g0 a g->nw g)
  (h:N6 con w w' ok (nwQ w nw own g0 a) (acO own g0) g0 u r us):N6 con w w' ok nw own g0 u r us:=by
 obtain⟨bm,p,n,d⟩:=h;refine⟨bm,fun g q c=>(p g q c).imp_right fun h=>?_,?_,?_⟩
 .unfold acO at h;split at h
  .exact h
  .cases h
 .rw[o]at n ⊢;obtain⟨s,cs,e,t,v⟩:=n;exact⟨s,cs,e,t,dy (fun g c=>⟨c.1,f g c.2⟩) v⟩
 .revert d
  split
  .exact fun d=>dy (fun g c=>⟨c.1,c.2.imp_left (f g)⟩) d
  .exact fun d=>dy (fun g c=>⟨c.1,f g c.2⟩) d
  .rintro⟨b,cs,e,i,j,k,l,m⟩;exact⟨b,cs,e,i,j,k,l,dy (fun g c=>⟨c.1,f g c.2⟩) m⟩
  .rintro⟨b,cs,e,i,j,k,l,m⟩;exact⟨b,cs,e,i,j,k,l,dy (fun g c=>⟨c.1,c.2.imp_left (f g)⟩) m⟩
  .exact fun d=>j5.alJ (fun g c=>⟨c.1,c.2.imp_left (f g)⟩) d
def alY {l:List Nat}(h:anQ l=true):l=[]:=by
 cases l with
 |nil=>rfl|cons _ _=>cases h
def aeJ {T:ZI}(qn:∀f con,C f=some con->wi P T f con){f:FuncId}{n:Func}{con:CW}(K:P.funcs[f]?=some n)(M:n.body.isNone=false)(H:Nat->Option Hint)
  {x:Args con.ps} {r:Args con.rs×Args con.qs} {w:World} (qo:ds.n<=w.heap.size) (qp:T.p w) {ok nw:Nat->Prop} {own:Nat->Option Nat} {g0:Nat} {vs:List Value} {u:Value}
  (F:Handed w (fun g=>¬T.bl g) ok nw own) (O:tY w ok nw own g0 con.pm con.i con.ps x vs u) (qq:Nat.ble con.ps.length n.ntmps=true) (qf:Nat.blt con.i con.ps.length=true) (qt:db con.ps=true)
  (qg:run P C (kk.CX N) H (ia n) {(NY n.ntmps con.pm con.i con.ps x) with rob:=Wj H} (apF P n con.pm con.rs con.qs con.m)=some r)
  (qu:∀e,EM (aj3 H) e=true->con.pm=.cur/\∀b cur S,ds.n<=b->nw b->w.heap[b]?=some (.cells cur e S)->b=g0) :
  Calls P f vs.toArray w fun e A=>∃us,e=.returned (dj us)/\N6 con w A ok nw own g0 u r us/\dh (fun g=>(own g).isSome=true) w A:=by
 obtain⟨c,qh⟩:∃c,n.body=some c:=by
  cases h:n.body with
  |none=>rw[h]at M;cases M|some c=>exact⟨c,rfl⟩
 have qv:ia n=c:=by simp[ia,qh]
 rw[qv]at qg;obtain⟨L,B,qw,qx,hB,hrel,Q,qy⟩:=Oh F con.i con.ps x vs qt O;have hlen:vs.length=con.ps.length:=by rw[<-acN (pm:=con.pm) con.i con.ps x (ef qf)];exact hrel.len.symm
 have W:∀g,(∃k,(L7 ok nw own L B).own g=some k)->∃j,own g=some j:=by
  rintro g ⟨k,s⟩;simp only[L7]at s;cases X:own g with
  |none=>rw[X]at s;cases s|some j=>exact⟨j,rfl⟩
 have qz:∀g,(∃k,(L7 ok nw own L B).own g=some k)->nw g:=by intro g Y;obtain⟨j,y⟩:=W g Y;exact(F.aS g j y).1
 let R:di:={w:=w,ok:=ok,nw:=nw,fr:=fun g=>∃k,(L7 ok nw own L B).own g=some k,Rz:=F.hz,pv:=u,Ud:=qz,hB:=qo,hBf:=fun g Y=>(W g Y).elim fun j y=>F.hb g j y}
 have Z:∀g,R.fr g->∃j,own g=some j:=W;have qA:Inv R (L7 ok nw own L B) (NY n.ntmps con.pm con.i con.ps x) {tmps:=vs.toArray++Array.replicate (n.ntmps-vs.toArray.size) undef,defers:=[]} w:=by unfold NY;rw[qx,hB];refine aa6 (R:=R) F rfl rfl rfl rfl (fun g k s=>Exists.intro k s) qw rfl ?_ Q (fun t v qB=>ahl hrel qB);have:=tU qq;simp[hlen];omega
 refine calls_of_wp K qh (l7 (w0:=R) (fun f con K=>(qn f con K).at qp fun b M=>by
  obtain⟨j,y⟩:=Z b M;exact(F.aS b j y).2.2) H (fun e qa=>⟨fun _=>rfl,fun b cur S hB qC qD=>by
   obtain⟨qE,qb⟩:=qu e qa;have qb:=qb b cur S hB qC qD;subst qb;rw[qE]at O Q;obtain⟨X,qF⟩:=RL con.i con.ps x vs O;rw[ajb con.i con.ps x (ef qf)]at Q;obtain⟨qi,z⟩:=Q;rw[qF]at z;injection z with z
   injection z with z
   injection z with z
   obtain⟨j,y⟩:=ek.1 X;cases qd:B with
   |none=>rw[qd]at qi;cases qi
   |some q =>
    obtain⟨d,qG,qQ⟩:=q;rw[qd]at z;have z:b=qG:=z;refine⟨.bx d,?_⟩;show(match own b with|none=>none|some _=>nZ L B b)=some (Key.bx d);rw[y,qd];simp[nZ,z]⟩) c (qA.agW (Wj H)) qg fun e qH bV qI A m E=>?_)
 have post:∀e,e=Exit.normal\/e=Exit.ret->(match GI P bV n.results.toList with
   |some l=>ZM bV con.pm con.rs con.qs con.m l|none=>none)=some r->bodyPost P n (fun e A=>∃us,e=.returned (dj us)/\N6 con w A ok nw own g0 u r us/\dh (fun g=>(own g).isSome=true) w A) e qI A:=by
  intro e qa E;split at E
  .rename_i l qK;obtain⟨us,qL,qj⟩:=JA (P:=P) m qK;have qM:∀g k,qH.own g=some k->w.heap.size<=g\/(own g).isSome=true:=by
    intro g k s;rcases(m.own g k s).1 with o|o
    .exact .inl o
    .obtain⟨j,y⟩:=Z g o;exact .inr (by rw[y];rfl)
   have qk:∃ql,Ending.returned (dj us)=.returned (dj ql)/\N6 con w A ok nw own g0 u r ql/\dh (fun g=>(own g).isSome=true) w A:=by
    refine⟨us,rfl,JD m m.nw m.Pt rfl qM (fun I g k s=>?_) (fun I=>?_) qL E,?_⟩
    .rcases(m.own g k s).1 with o|o
     .exact o
     .obtain⟨qR,qe⟩:=o;obtain⟨qN,qO⟩:=qy I;subst qN;subst qO;simp only[L7,nZ,EU]at qe;split at qe<;>cases qe
    .have:∀(i:Nat) (D:List (Ty×Bool)) (x:Args D) (vs:List Value),tY w ok nw own g0 con.pm i D x vs u->u=.pointer (some ⟨g0,0,none⟩):=by
      intro i
      induction i with
      |zero =>
       intro D x vs h;cases D with
       |nil=>exact h.elim
       |cons p D =>
        obtain⟨qm,_,o,_⟩:=h;rcases I with I|I<;>rw[I]at o<;>exact o.1
      |succ i qP =>
       intro D x vs h;cases D with
       |nil=>exact h.elim
       |cons p D =>
        obtain⟨v,qm,_,_,o⟩:=h;exact qP D x.2 qm o
     exact this _ _ _ _ O
    .exact⟨m.below.os,m.below.tape,m.below.output,m.below.size,fun k s K=>m.below.block k s fun Ud=>K (by obtain⟨j,y⟩:=Z k Ud;rw[y];rfl)⟩
   rcases qa with rfl|rfl
   .exact bodyPost_end qj m.defers qk
   .exact bodyPost_ret qj m.defers qk
  .cases E
 cases e with
 |norm=>exact post .normal (.inl rfl) E|ret=>exact post .ret (.inr rfl) E|exit j=>cases E
def MI {T : ZI} (L : ∀ f con, C f = some con → wi P T f con) {f : FuncId} {y : Func} {con : CW} (z : P.funcs[f]? = some y) (d : (y.name == "runtime.NumGoroutine") = false) (t : y.body.isNone = false) (M : akd con)
  (H:Nat->Option Hint) (O:∀x r,con.g x=some r->∃N,aiR P C (kk.CX N) H y con.ps con.i con.pm con.rs con.qs con.m x=some r):WA P T f con:=by
 refine⟨⟨y,z,d,t⟩,M,fun x r c w Q R ok i own j A u l n=>?_⟩;obtain⟨N,E⟩:=O x r c;obtain⟨I,E⟩:=aG E;simp only[az]at I;obtain⟨⟨⟨⟨S,W⟩,X⟩,qk⟩,o⟩:=I;have aqZ:∀(i:Nat->Prop) (own:Nat->Option Nat),Handed w (fun g=>¬T.bl g) ok i own->tY w ok i own j con.pm con.i con.ps x A u ->
   (∀e,EM (aj3 H) e=true->con.pm=.cur/\∀b cur K,ds.n<=b->i b->w.heap[b]?=some (.cells cur e K)->b=j) ->
   Calls P f A.toArray w fun e F=>∃us,e=.returned (dj us)/\N6 con w F ok i own j u r us/\dh (fun g=>(own g).isSome=true) w F:=by
  clear l n;intro i own l n Y;exact aeJ L z t H Q R l n S W X E Y
 unfold ao0 at o;split at o
 .rename_i p B Z;rw[B]at n;obtain⟨qa,ql⟩:=RL con.i con.ps x A n;obtain⟨qb,qd⟩:=ek.1 qa;have qe:∀g,nwQ w i own j p.1 g->i g:=by
   rintro g (h|h|h)
   .exact l.hz g h
   .rw[h];exact(l.aS j qb qd).1
   .exact h.2.1
  have D:∀{g:Nat} {m:Nat},acO own j g=some m->g=j/\own g=some m:=by
   intro g m c;unfold acO at c;split at c
   .exact⟨by assumption,c⟩
   .cases c
  refine Calls.mono (aqZ (nwQ w i own j p.1) (acO own j) ⟨fun g c=>.inl c,fun g m c=>⟨.inr (.inl (D c).1),(l.aS g m (D c).2).2⟩,fun g c=>aa7 (l.cR g c),fun g m c=>l.hb g m (D c).2⟩ (by rw[B];exact aeI con.i con.ps x A Z n) (fun e q=>⟨B,fun b cur K qf d t=>?_⟩)) fun e F q=>?_
  .rcases d with d|d|⟨_,_,d⟩
   .exact absurd (nj.1 t).1 (Nat.not_lt.2 d)
   .exact d
   .obtain⟨qm,qn,qo,s,qg⟩:=d qf;rw[t]at s;injection s with s
    injection s with _ s _
    rw[gb]at o;have:=o e (Fj.1 q);rw[s,qg]at this;cases this
  .obtain⟨us,rfl,qh,v⟩:=q;exact⟨us,rfl,akt B qe qh,⟨v.os,v.tape,v.output,v.size,fun k qi z=>v.block k qi fun h=>z (by obtain⟨m,qj⟩:=ek.1 h;rw[(D qj).2];rfl)⟩⟩
 .refine aqZ i own l n fun e q=>?_
  unfold anQ at o;split at o
  .rename_i d;rw[d]at q;cases q
  .cases o
def an6 {a b:Ty×Bool}{i f:CV}{g:Args [a,b]×Args []}{n:Args [b]}(h:ZM st (.own true) [a,b] [] 2 [i,f]=some g)(d:tT st [b] [f]=some n):g.1.2.1=n.1:=by
 simp only[ZM,Nat.beq,NV]at h;split at h
 .split at h
  .rename_i r c;cases h;simp only[tT]at c d;split at c
   .split at c
    .rename_i y e;split at e
     .rename_i z j;rw[j]at d;cases d;cases e;cases c;rfl
     .cases e
    .cases c
   .cases c
  .cases h
 .cases h
def an7 {b q:Ty×Bool}{c:CV}{d:Args [b]×Args [q]}{n:Args [b]}(h:ZM st (.own true) [b] [q] 2 [c]=some d)(f:tT st [b] [c]=some n):d.1.1=n.1:=by
 simp only[ZM,Nat.beq,NV]at h;split at h
 .split at h
  .split at h
   .rename_i r y e g;cases h;rw[f]at e;cases e;rfl
   .cases h
  .cases h
 .cases h
def ZX {T : ZI} (qj : ∀ f con, C f = some con → wi P T f con) {f : FuncId} {o : Func} {con : Sel} (D : P.funcs[f]? = some o) (O : (o.name == "runtime.NumGoroutine") = false) (p : o.body.isNone = false) (qk : gU con.ps con.i = some con.q)
  (H:Nat->Option Hint) (ql:∀x r,con.g x=some r->∃N,ZN P C (kk.CX N) H o con.ps con.i con.a con.b con.q x=some r):WB P T f con:=by
 refine⟨⟨o,D,O,p⟩,qk,fun x r K w qm qn ok nw own g0 E u F qo=>?_⟩;obtain⟨N,Q⟩:=ql x r K;obtain⟨qd,Q⟩:=aG Q;simp only[az]at qd;obtain⟨⟨⟨⟨qp,qq⟩,qt⟩,qI⟩,qu⟩:=qd;obtain⟨c,qe⟩:∃c,o.body=some c:=by
  cases h:o.body with
  |none=>rw[h]at p;cases p|some c=>exact⟨c,rfl⟩
 have qv:ia o=c:=by simp[ia,qe]
 rw[qv]at Q;obtain⟨L,B,qw,qx,hB,hrel,qy,qK⟩:=Oh F con.i con.ps x E qt qo;have hlen:E.length=con.ps.length:=by rw[<-acN (pm:=(.own true)) con.i con.ps x (ef qq)];exact hrel.len.symm
 have X:∀g,(∃k,(L7 ok nw own L B).own g=some k)->∃j,own g=some j:=by
  rintro g ⟨k,q⟩;simp only[L7]at q;cases qz:own g with
  |none=>rw[qz]at q;cases q|some j=>exact⟨j,rfl⟩
 have qA:∀g,(∃k,(L7 ok nw own L B).own g=some k)->nw g:=by intro g K;obtain⟨j,s⟩:=X g K;exact(F.aS g j s).1
 let R:di:={w:=w,ok:=ok,nw:=nw,fr:=fun g=>∃k,(L7 ok nw own L B).own g=some k,Rz:=F.hz,pv:=u,Ud:=qA,hB:=qm,hBf:=fun g K=>(X g K).elim fun j s=>F.hb g j s}
 have Y:∀g,R.fr g->∃j,own g=some j:=X;have qB:Inv R (L7 ok nw own L B) (NY o.ntmps (.own true) con.i con.ps x) {tmps:=E.toArray++Array.replicate (o.ntmps-E.toArray.size) undef,defers:=[]} w:=by unfold NY;rw[qx,hB];refine aa6 (R:=R) F rfl rfl rfl rfl (fun g k q=>Exists.intro k q) qw rfl ?_ qy (fun t v qC=>ahl hrel qC);have:=tU qp;simp[hlen];omega
 refine calls_of_wp D qe (l7 (w0:=R) (fun f con D=>(qj f con D).at qn fun b p=>by obtain⟨j,s⟩:=Y b p;exact(F.aS b j s).2.2) H (fun e Z=>absurd Z (by rw[alY qu];exact fun h=>by cases h)) c (qB.agW (Wj H)) Q fun e qD bV qE I i d=>?_)
 have post:∀e,e=Exit.normal\/e=Exit.ret->aj4 P o con.a con.b con.q Ex.norm bV=some r->bodyPost P o (fun e I=>∃us,e=.returned (dj us)/\anX con w I ok nw own g0 u r us/\dh (fun g=>(own g).isSome=true) w I) e qE I:=by
  intro e Z d;simp only[aj4]at d;split at d
  .rename_i qL qF qG;obtain⟨us,S,qf⟩:=JA (P:=P) i qG;obtain⟨z,y,rfl⟩:∃z y,us=[z,y]:=by
    match us,S with
    |[z,y],_=>exact⟨z,y,rfl⟩|[],h=>exact h.elim|[_],h=>exact h.2.elim|_::_::_::_,h=>exact h.2.2.elim
   have qg:∀g k,qD.own g=some k->w.heap.size<=g\/(own g).isSome=true:=by
    intro g k q;rcases(i.own g k q).1 with qa|qa
    .exact .inl qa
    .obtain⟨j,s⟩:=Y g qa;exact .inr (by rw[s];rfl)
   have qh:∃qi,Ending.returned (dj [z,y])=.returned (dj qi)/\anX con w I ok nw own g0 u r qi/\dh (fun g=>(own g).isSome=true) w I:=by
    refine⟨[z,y],rfl,⟨z,y,rfl,?_⟩,?_⟩
    .split at d
     .rename_i n O;cases W:Wa con.b.1 n.1 with
      |true =>
       rw[W]at d;simp only[br]at d;split at d
       .rename_i qb M;cases d;have p:qb.1.2.1=n.1:=an6 M O;dsimp only;rw[p,W];have:=JD (con:=apI con) i i.nw i.Pt (g0:=g0) rfl qg (fun m=>by cases m) (fun m=>by rcases m with m|m<;>cases m) S M;rw[<-p];exact this
       .cases d
      |false =>
       rw[W]at d;simp only[br]at d;obtain⟨A,d⟩:=aG d;split at d
       .rename_i qb M;cases d;have p:qb.1.1=n.1:=an7 M O;dsimp only;rw[p,W];have:=JD (con:=aqM con) i i.nw i.Pt (g0:=g0) rfl qg (fun m=>by cases m) (fun m=>by rcases m with m|m<;>cases m) (l:=[qF]) (us:=[y]) ⟨S.2.1,trivial⟩ M;rw[<-p];refine⟨this,fun qH=>?_⟩;unfold aoY at A;rw[qH]at A;split at A
        .rename_i l;obtain⟨E,rfl,hrel⟩:=S.1;rw[az]at A;exact⟨E,rfl,by rw[<-hrel.len,aA A.1],VE hrel (Pz A.2)⟩
        .cases A
        .contradiction
       .cases d
     .cases d
    .exact⟨i.below.os,i.below.tape,i.below.output,i.below.size,fun k q D=>i.below.block k q fun Ud=>D (by obtain⟨j,s⟩:=Y k Ud;rw[s];rfl)⟩
   rcases Z with rfl|rfl
   .exact bodyPost_end qf i.defers qh
   .exact bodyPost_ret qf i.defers qh
  .cases d
 cases e with
 |norm=>exact post .normal (.inl rfl) d|ret=>exact post .ret (.inr rfl) d|exit j=>cases d
end
end Go.Am
