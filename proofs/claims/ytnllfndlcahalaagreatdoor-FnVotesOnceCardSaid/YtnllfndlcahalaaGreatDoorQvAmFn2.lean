/- No condition. -/
import Derived.Test.YtnllfndlcahalaaGreatDoorQvAmFn
set_option linter.all false
namespace Go.Am
open Go.RowKit
section
variable {N:Nat} {P:Program} {C:FuncId->Option Any} {w0:fh} {w:World} {G:Gh} {st:St} {a:Act}
def ZL (ok nw:Nat->Prop)(own:Nat->Option Nat)(L:List (Nat×fU×Value))(B:Option (Nat×Nat×List AC)):Gh :=
 {nw:=nw,ok:=ok,hb:=fun _=>match B with|some (_,b,_)=>b|none=>0,hv:=fun i=>hvL L i,own:=fun g=>match own g with|none=>none|some _=>Dt L B g}
def Wm:Option (Nat×Nat×List AC)->List (Nat×List AC)
 |none=>[]|some (d,_,l)=>[(d,l)]
def alw (L:List (Nat×fU×Value)):List (Nat×Option fU):=L.map fun z=>(z.1,some z.2.1)
structure awt (w:World) (ok nw:Nat->Prop) (own:Nat->Option Nat) (L:List (Nat×fU×Value)) (B:Option (Nat×Nat×List AC)):Prop where
 row:∀z∈L,z.2.1.w=true/\0<z.2.1.t.n/\(∃rows,w.ownsRow 0 z.2.1.e z.2.1.t.n z.2.2 z.2.1.xs.length rows/\fk w (fun g=>own g=none/\(nw g\/(z.2.1.f=false/\ok g))) z.2.1.t rows z.2.1.xs)/\∀g,z.2.2.ownBlock=some g->(own g).isSome=true
 inj:∀z∈L,∀z'∈L,∀g,z.2.2.ownBlock=some g->z'.2.2.ownBlock=some g->z=z'
 uniq:∀z∈L,∀z'∈L,z.1=z'.1->z=z'
 box:∀d g l,B=some (d,g,l)->(own g).isSome=true/\L=[]/\∃cs e f t x,w.heap[g]?=some (.cells cs e (0,0))/\l=ex f t x/\Rd w (fun g=>own g=none/\(nw g\/(f=false/\ok g))) t x cs.toList
def Wn {ok nw:Nat->Prop}{own:Nat->Option Nat}{L:List (Nat×fU×Value)}{B:Option (Nat×Nat×List AC)}{f:Bool}{g:Nat}(h:own g=none/\(nw g\/(f=false/\ok g))):RO (ZL ok nw own L B) f g :=
 ⟨by simp[ZL,h.1],h.2⟩
def auq {ok nw:Nat->Prop}{own:Nat->Option Nat}{W:Nat->Prop}(X:Handed w W ok nw own){R:fh}(Y:R.hd=fun _=>none)(A:R.w=w)(dd:R.ok=ok)(hnw:R.nw=nw){L:List (Nat×fU×Value)}{B:Option (Nat×Nat×List AC)}
  (hfr:∀g k,(ZL ok nw own L B).own g=some k->R.fr g) (j:awt w ok nw own L B) {nt:Nat} {tm:List (Nat×AV)} {sp:AV} (Z:a.defers=[]) (qd:a.tmps.size=nt)
  (qe:jQ (ZL ok nw own L B) w (Wm B) (alw L) sp R.pv) (qf:∀t v,look tm t=some v->jQ (ZL ok nw own L B) w (Wm B) (alw L) v (a.tmps.getD t undef)) :
  Inv R (ZL ok nw own L B) {nt:=nt,tm:=tm,bx:=Wm B,bl:=alw L,sp:=sp} a w:=by
 subst A;have qg:∀z∈L,∀g,z.2.2.ownBlock=some g->(ZL ok nw own L B).own g=some (.bl z.1):=by
  intro z p g h;have r:=(j.row z p).2.2.2 g h;obtain⟨D,E⟩:=l2.1 r;have qh:B=none:=by
   cases B with
   |none=>rfl
   |some q =>
    obtain⟨d,s,l⟩:=q;have:=(j.box d s l rfl).2.1;rw[this]at p;simp at p
  subst qh;simp only[ZL,E,Dt];unfold Pl;cases i:L.find? fun z=>z.2.2.ownBlock==some g with
  |none =>
   have:=anT.1 i z p;simp[h]at this
  |some y =>
   have m:=VO i;have n:=VJ i;rw[<-j.inj z p y n g h (by simpa using m)];rfl
 refine⟨hnw.symm,dd.symm,e5.refl _ _,Z,qd,qe,fun g b ql Q=>(by rw[Y]at Q;cases Q),qf,fun d l o=>?_,fun id b qi=>?_,fun g k c=>?_⟩
 .cases B with
  |none=>simp[Wm,look]at o
  |some q =>
   obtain⟨F,s,qj⟩:=q;simp only[Wm,au]at o;by_cases H:F=d
   .rw[ag H]at o;cases o;subst H;obtain⟨m,n,cs,e,f,t,x,I,K,S⟩:=j.box F s l rfl;refine⟨cs,e,I,?_,?_⟩
    .obtain⟨D,E⟩:=l2.1 m;simp[ZL,E,Dt]
    .rw[K];exact V2 (iP (fun g h=>Wn (f:=f) h) S)
   .rw[af H]at o;simp[look]at o
 .obtain⟨v,M⟩:=aex qi;obtain⟨m,n,⟨rows,I,K⟩,S⟩:=j.row _ M;have T:(ZL ok nw own L B).hv id=v:=Y6 j.uniq M;refine⟨fun _=>⟨rows,by rw[T];exact I,fun g h=>?_,l5 (fun g h=>Wn h) K⟩,fun A=>?_,n⟩
  .rw[T]at h;exact qg _ M g h
  .rw[show b.w=true from m]at A;cases A
 .have qk:=c;unfold ZL at c;dsimp only at c;cases r:own g with
  |none=>rw[r]at c;cases c
  |some D =>
   rw[r]at c;dsimp only at c;refine⟨.inr (hfr g k qk),(X.bp g D r).2.1,?_⟩;have rows:Pl L g=some k->aGX (ZL ok nw own L B) (Wm B) (alw L) g k:=by
    intro u;unfold Pl at u;cases i:L.find? fun z=>z.2.2.ownBlock==some g with
    |none=>rw[i]at u;cases u
    |some y =>
     rw[i]at u;cases u;have m:=VO i;have n:=VJ i;refine⟨kO n,?_⟩;rw[show(ZL ok nw own L B).hv y.1=y.2.2 from Y6 j.uniq n];simpa using m
   cases B with
   |none=>have:=rows c;cases k with|bx d=>exact this|bl id=>exact this|hid=>trivial
   |some q =>
    obtain⟨F,s,qj⟩:=q;simp only[Dt]at c;by_cases O:g=s
    .rw[ag O]at c;cases c;exact⟨by simp[Wm,au],by simp[ZL,O]⟩
    .rw[af O]at c;have:=rows c;cases k with|bx d=>exact this|bl id=>exact this|hid=>trivial
def aDV {f:Bool}{G:Gh}{bx:List (Nat×List AC)}{bl:List (Nat×Option fU)}{p:Ty×Bool}{x:p.1.D}{v:Value}(b:p.2=true\/p.1.n=1)(h:aev w (RO G f) p x v) :
  eH G w bx bl (match p.2 with|true=>.agg (ex f p.1 x)|false=>.c (match ex f p.1 x with|[c]=>c|_=>.none)) v:=by
 have:=Ds (f:=f) (bx:=bx) (bl:=bl) (rs:=[p]) (x:=(x,())) (vs:=[v]) (by simp only[eG,aG,kK];exact⟨b.imp_right fun h=>by rw[h];rfl,trivial⟩) ⟨v,[],rfl,h,rfl⟩
 exact this.1
def acF {ok nw:Nat->Prop}{own:Nat->Option Nat}{qh:Nat->Prop}(D:Handed w qh ok nw own){g0:Nat}{u:Value}{pm:PM}:∀(i:Nat) (ps:List (Ty×Bool)) (x:Args ps) (vs:List Value),eG ps=true->V9 w ok nw own g0 pm i ps x vs u ->
  ∃L B,awt w ok nw own L B/\(exP pm i ps x).2.2.1=alw L/\(exP pm i ps x).2.2.2=Wm B/\ch (eH (ZL ok nw own L B) w (Wm B) (alw L)) (exP pm i ps x).1 vs/\eH (ZL ok nw own L B) w (Wm B) (alw L) (exP pm i ps x).2.1 u /\
   (pm=.rd->L=[]/\B=none)
 |0,[],x,vs,_,h=>h.elim|_+1,[],x,vs,_,h=>h.elim|0,p::ps,x,vs,t,h=>by
  obtain⟨M,rfl,F,O⟩:=h;simp only[eG,aG,kK]at t;have H:p.2=true\/p.1.n=1:=t.1.imp_right aP;have rest:∀L B,ch (eH (ZL ok nw own L B) w (Wm B) (alw L)) (exF false ps x.2) M:=fun L B =>
   Ds t.2 (kx (fun g m=>Wn ⟨D.dd g m,.inr ⟨rfl,m⟩⟩) O)
  cases pm with
  |rd =>
   have E:aev w ok p x.1 u:=F;have r:eH (ZL ok nw own [] none) w (Wm none) (alw []) (aKQ .rd p x.1).1 u:=aDV (f:=false) H (by obtain⟨cs,r,I⟩:=E;exact⟨cs,iP (fun g m=>Wn (f:=false) ⟨D.dd g m,.inr ⟨rfl,m⟩⟩) r,I⟩)
   exact⟨[],none,⟨fun z j=>by simp at j,fun z j=>by simp at j,fun z j=>by simp at j,fun d g l o=>by cases o⟩,rfl,rfl,⟨r,rest [] none⟩,r,fun _=>⟨rfl,rfl⟩⟩
  |own f =>
   have E:aDM w (fun g=>own g=none/\(nw g\/(f=false/\ok g))) own p x.1 0 u:=F;obtain⟨L,y,Z⟩:=aGT (id:=62500) (f:=f) E H;have Q:awt w ok nw own L none:=by
    refine⟨fun z j=>?_,fun z j qd qe g m qi=>?_,y.uniq,fun d g l o=>by cases o⟩
    .obtain⟨r,I,q⟩:=y.rows z j;refine⟨q.wr,q.pos,?_,fun g m=>by rw[q.rL g m];rfl⟩;obtain⟨rows,K,R⟩:=q.row;exact⟨rows,K,ahu (fun qj g m=>by rw[q.nf,qj,an0];exact m) R⟩
    .obtain⟨r,_,q⟩:=y.rows z j;obtain⟨K,_,S⟩:=y.rows qd qe;have qk:=q.rL g m;have qf:=S.rL g qi;rw[qk]at qf;have:=eV qf;exact y.uniq z j qd qe (by omega)
   have hrel:∀c v,tz L c v->bC (ZL ok nw own L none) w (Wm none) (alw L) c v:=by
    intro c v A;cases c with
    |own i len =>
     cases len with
     |some l=>exact A.elim
     |none =>
      obtain⟨b,T⟩:=A;have qg:(ZL ok nw own L none).hv i=v:=Y6 Q.uniq T;refine⟨kO T,?_,qg.symm⟩;rw[qg];obtain⟨_,_,⟨rows,ql,_⟩,_⟩:=Q.row _ T;rcases ql.2 with ⟨o,_⟩|⟨qo,cap,cur,o,_⟩
      .exact⟨_,_,_,o⟩
      .exact⟨_,_,_,o⟩
    |int k n=>exact A|bool b=>exact A|str s=>exact A|_=>exact A.elim
   exact⟨L,none,Q,y.q,rfl,⟨We hrel Z,rest L none⟩,We hrel Z,fun h=>by cases h⟩
  |box =>
   obtain⟨W,bp,cs,e,X,Y⟩:=(show u=.pointer (some ⟨g0,0,none⟩)/\(own g0).isSome=true/\∃cs e,w.heap[g0]?=some (.cells cs e (0,0))/\Rd w ok p.1 x.1 cs.toList from F);have hrel:eH (ZL ok nw own [] (some (4000000,g0,ex false p.1 x.1))) w (Wm (some (4000000,g0,ex false p.1 x.1))) (alw []) (.c (.ptr 4000000 0)) u:=⟨by simp[Wm,au],W⟩;refine⟨[],some (4000000,g0,ex false p.1 x.1),⟨fun z j=>by simp at j,fun z j=>by simp at j,fun z j=>by simp at j,fun d g l o=>?_⟩,rfl,rfl,⟨hrel,rest _ _⟩,hrel,fun h=>by cases h⟩;cases o;exact⟨bp,rfl,cs,e,false,p.1,x.1,X,rfl,iP (fun g m=>⟨D.dd g m,.inr ⟨rfl,m⟩⟩) Y⟩
  |cur =>
   obtain⟨W,bp,cs,e,X,Y⟩:=(show u=.pointer (some ⟨g0,0,none⟩)/\(own g0).isSome=true/\∃cs e,w.heap[g0]?=some (.cells cs e (0,0))/\Rd w (fun g=>own g=none/\nw g) p.1 x.1 cs.toList from F);have hrel:eH (ZL ok nw own [] (some (4000000,g0,ex true p.1 x.1))) w (Wm (some (4000000,g0,ex true p.1 x.1))) (alw []) (.c (.ptr 4000000 0)) u:=⟨by simp[Wm,au],W⟩;refine⟨[],some (4000000,g0,ex true p.1 x.1),⟨fun z j=>by simp at j,fun z j=>by simp at j,fun z j=>by simp at j,fun d g l o=>?_⟩,rfl,rfl,⟨hrel,rest _ _⟩,hrel,fun h=>by cases h⟩;cases o;exact⟨bp,rfl,cs,e,true,p.1,x.1,X,rfl,iP (fun g m=>⟨m.1,.inl m.2⟩) Y⟩
 |i+1,p::ps,x,vs,t,h=>by obtain⟨v,M,rfl,E,O⟩:=h;simp only[eG,aG,kK]at t;have H:p.2=true\/p.1.n=1:=t.1.imp_right aP;obtain⟨L,B,r,I,q,K,R,S⟩:=acF D i ps x.2 M t.2 O;refine⟨L,B,r,I,q,⟨aDV (f:=false) H ?_,K⟩,R,S⟩;obtain⟨cs,qm,qn⟩:=E;exact⟨cs,iP (fun g m=>Wn (f:=false) ⟨D.dd g m,.inr ⟨rfl,m⟩⟩) qm,qn⟩
def awu {pm:PM}:∀(i:Nat) (ps:List (Ty×Bool)) (x:Args ps),i<ps.length->(exP pm i ps x).1.length=ps.length
 |0,p::ps,x,_=>by
  have:∀{f:Bool} {rs:List (Ty×Bool)} {y:Args rs},(exF f rs y).length=rs.length:=by
   intro f rs
   induction rs with
   |nil=>intro y;rfl|cons a l b=>intro y;simp[exF,b]
  simp[exP,this]
 |i+1,p::ps,x,h=>by have:=awu (pm:=pm) i ps x.2 (by simpa using h);simp[exP,this]
 |0,[],_,h=>by simp at h
 |_+1,[],_,h=>by simp at h
def pn.ay3 {w:World}{okE aoq:Nat->Prop}{own bQ:Nat->Option Nat}(m:∀g j,own g=some j->bQ g=some j)(n:∀g,okE g->aoq g):∀{rs:List (Ty×Bool)} {x:Args rs} {j:Nat} {vs:List Value},pn w okE own rs x j vs->pn w aoq bQ rs x j vs:=by
 have o:∀{t:Ty} {x:t.D} {j:Nat} {c:List Value},FrC w okE own t x j c->FrC w aoq bQ t x j c:=by
  intro t
  induction t with
  |int k=>exact fun h=>h
  |bool=>exact fun h=>h
  |str=>exact fun h=>h
  |unit=>exact fun h=>h
  |pair a b p q =>
   intro x j c h;obtain⟨r,s,e,d,f⟩:=h;exact⟨r,s,e,p d,q f⟩
  |sl e t _ =>
   intro x j c h;obtain⟨v,rows,d,f,i,u,y⟩:=h;exact⟨v,rows,d,f,i,fun g z=>m g _ (u g z),l5 n y⟩
 intro rs
 induction rs with
 |nil=>exact fun h=>h
 |cons a l A =>
  intro x j vs h;obtain⟨v,B,e,⟨c,d,f⟩,i⟩:=h;exact⟨v,B,e,⟨c,o d,f⟩,A i⟩
def aoC (h:Inv w0 G st a w){p:Ty×Bool}{c:List AC}{cs:Array Value}(hrel:ch (bC G w st.bx st.bl) c cs.toList)(j:wU c=true){y:p.1.D}(hi:imV st p (.agg c)=some y){ok:Nat->Prop}
  (dd:∀f e t xs,AC.ro f e t xs∈c->∀g,RO G f g->ok g):ef w ok [p] (y,()) [.agg cs]:=by
 refine⟨_,[],rfl,aBH h (x:=.agg c) (u:=.agg cs) ⟨cs,rfl,hrel⟩ (fun t n v xs i k l=>?_) hi,rfl⟩;refine kv h k l (fun id len b d _=>?_) (fun f e u m d=>?_)
 .subst d;exact absurd i (ahz j id len)
 .subst d;exact dd f e u m i
def ay4 (l m:List CV):aU (l++m)=aU l++aU m:=by
 induction l with
 |nil=>rfl|cons c l b=>simp[aU,b]
def Wo (o:Inv w0 G st a w){w1:World}{ok nw:Nat->Prop}{own:Nat->Option Nat}{g0:Nat}{u:Value}(hnw:G.nw=nw)(dd:G.ok=ok)(qd:w0.pv=u)(I:∀g k,G.own g=some k->w1.heap.size<=g\/(own g).isSome=true)
  {con:PR} (qp:con.pm=.rd->∀g k,G.own g=some k->w1.heap.size<=g) (qk:con.pm=.box\/con.pm=.cur->u=.pointer (some ⟨g0,0,none⟩)) {l:List CV} {us:List Value} (B:ch (eH G w st.bx st.bl) l us) {r:Args con.rs×Args con.qs}
  (j:asw st con.pm con.rs con.qs con.m l=some r):aom con w1 w ok nw own g0 u r us:=by
 obtain⟨qA,i,pm,rs,m,qB,g⟩:=con;dsimp only at *;subst hnw;subst dd;have qe:∀(bQ:Nat->Option Nat),(∀g,G.own g=none->bQ g=none)->∀g,RO G (m2 m) g->bQ g=none/\(G.nw g\/(m2 m=false/\G.ok g)):=fun bQ h g d=>⟨h g d.1,d.2⟩
 unfold asw at j;cases pm with
 |rd =>
  dsimp only at j;split at j
  .split at j
   .rename_i ql n;split at j
    .rename_i _ b;split at j
     .rename_i c M;split at j
      .rename_i z;rw[aG]at z;split at j
       .rename_i D s;cases j;obtain⟨cs,e,K,bp,hrel⟩:=o.bx b c M;obtain⟨v,rfl⟩:∃v,us=[v]:=by
         cases us with
         |nil=>exact B.elim
         |cons v us =>
          cases us with
          |nil=>exact⟨v,rfl⟩|cons _ _=>exact B.2.elim
        have qm:v=.pointer (some ⟨G.hb b,0,none⟩):=B.1.2;have qf:=qp rfl _ _ bp;refine⟨fun g=>if g=G.hb b then some 0 else none,fun g L d=>?_,trivial,?_⟩
        .dsimp only at d;split at d
         .rename_i F;exact .inl (F▸qf)
         .cases d
        .have key:ef w (fun g=>(if g=G.hb b then some 0 else none)=(none:Option Nat)/\(G.nw g\/(ql=false/\G.ok g))) rs D [.agg cs]:=by
          match rs,D,s with
          |[p],D,s =>
           simp only[Cj]at s;split at s
           .rename_i y qq;cases s;refine aoC o hrel z.2 qq fun f e t xs n g d=>⟨?_,?_⟩
            .have:g≠G.hb b:=by rintro rfl;have:=d.1;rw[bp]at this;cases this
             simp[this]
            .have:=auo _ z.1 _ n;refine d.2.imp_right fun h=>⟨?_,h.2⟩
             cases ql with
             |false=>rfl
             |true =>
              have S:=this rfl;rw[S]at h;cases h.1
           .cases s
          |[],_,s=>simp[Cj]at s
          |_::_::_,_,s =>
           simp only[Cj]at s;split at s<;>cases s
         unfold rdM at n;split at n
         .cases n;exact⟨G.hb b,cs,e,by rw[qm],qf,by simp,K,kx (fun g d=>⟨d.1,d.2.elim (fun h=>h) fun h=>by cases h.1⟩) key⟩
         .cases n;exact⟨G.hb b,cs,e,by rw[qm],qf,by simp,K,kx (fun g d=>⟨d.1,d.2.imp_right fun h=>h.2⟩) key⟩
         .cases n
       .cases j
      .cases j
     .cases j
    .cases j
   .cases j
  .cases j
 |own f =>
  dsimp only at j;split at j
  .rename_i n;rw[kK]at n;have A:m=2\/m=3:=n.imp aP aP;split at j
   .split at j
    .rename_i z;rw[aG]at z;split at j
     .rename_i D s;cases j;have O:=(Iq A (qe (cg G (aU l)) fun g d=>by simp[cg,d]) o (aU l) [] rs l us D B (pre:=[]) (seen:=[]) (by simp) (fun id len n=>by simp at n) (by rw[fs];exact z.1) z.2 s).1;refine⟨cg G (aU l),fun g L d=>?_,rfl,?_⟩
      .unfold cg at d;split at d
       .rename_i id hid;exact I g _ hid
       .cases d
      .rcases A with rfl|rfl<;>exact O
     .cases j
    .cases j
   .rename_i q;split at j
    .rename_i c M;split at j
     .rename_i z;simp only[aG]at z;obtain⟨⟨E,T⟩,W⟩:=z;split at j
      .rename_i D qg s Q;cases j;have qt:eH G w st.bx st.bl c u:=by have:=o.sp;rw[M,qd]at this;exact this
       rw[ay4]at E;obtain⟨O,qu,R,x,qv⟩:=Iq A (qe (cg G (aU l++aU [c])) fun g d=>by simp[cg,d]) o (aU l++aU [c]) (aU [c]) rs l us D B (pre:=[]) (seen:=[]) (by simp) (fun id len n=>by simp at n) E T s;obtain⟨qn,_⟩:=Iq A (qe (cg G (aU l++aU [c])) fun g d=>by simp[cg,d]) o (aU l++aU [c]) [] [q] [c] [u] qg ⟨qt,trivial⟩ (pre:=aU l) (seen:=qu) (by simp) (fun id len n=>x id len (by simpa using n)) (by rw[fs];exact R) W Q;rw[qv]at qn;refine⟨cg G (aU l++aU [c]),fun g L d=>?_,qn,?_⟩
       .unfold cg at d;split at d
        .rename_i id hid;exact I g _ hid
        .cases d
       .rcases A with rfl|rfl<;>exact O
      .cases j
     .cases j
    .cases j
   .cases j
  .cases j
 |box =>
  dsimp only at j;generalize qh:st.sp=qw at j;split at j
  .rename_i b q;have qi:=qh;split at j
   .rename_i c M;split at j
    .rename_i z;simp only[aG]at z;obtain⟨⟨⟨X,E⟩,T⟩,W⟩:=z;split at j
     .rename_i D qg s Q;cases j;obtain⟨cs,e,K,bp,hrel⟩:=o.bx b c M;have qj:G.hb b=g0:=by
       have R:=o.sp;rw[qi,qd,qk (.inl rfl)]at R;have x:Value.pointer (some ⟨g0,0,none⟩)=.pointer (some ⟨G.hb b,0,none⟩):=R.2;injection x with x
       injection x with x
       injection x with x
       exact x.symm
      subst qj;have H:∀g,G.own g=none->g≠G.hb b:=by rintro g d rfl;rw[bp]at d;cases d
      by_cases n:m<=1
      ·
       refine⟨fun g=>if g=G.hb b then some (nOf rs) else none,fun g L d=>?_,⟨⟨nOf rs,by simp,bF _⟩,cs,e,K,?_⟩,?_⟩
       .dsimp only at d;split at d
        .rename_i F;exact F▸I _ _ bp
        .cases d
       .refine aoC o hrel X Q fun f e t xs n g d=>⟨by simp[H g d.1],d.2.imp_right fun h=>h.2⟩
       .have A:m=0\/m=1:=by omega
        have Y:∀g id,G.own g=some (.bl id)->g≠G.hb b:=by rintro g id d rfl;rw[bp]at d;cases d
        rcases A with rfl|rfl
        .exact ahA o B E s (fun f g _ d=>⟨by simp[H g d.1],d.2.imp_right fun h=>h.2⟩) (fun g id d=>⟨by simp[Y g id d],.inl (o.V1 d)⟩) (.inl rfl)
        .exact ahA o B E s (fun f g S d=>⟨by simp[H g d.1],d.2.elim (fun h=>h) fun h=>by rw[S (by simp)]at h;cases h.1⟩) (fun g id d=>⟨by simp[Y g id d],o.V1 d⟩) (.inr rfl)
      .have A:m=2\/m=3:=by have:=Gq W;omega
       have qx:ye st rs l=true:=by rcases A with rfl|rfl<;>exact T
       have O:=(Iq A (okE:=fun g=>G.own g=none/\(G.nw g\/(m2 m=false/\G.ok g))) (fun g d=>⟨d.1,d.2⟩) o (aU l) [] rs l us D B (pre:=[]) (seen:=[]) (by simp) (fun id len n=>by simp at n) (by rw[fs];exact E) qx s).1;have Z:∀g,G.own g=none->(if g=G.hb b then some (nOf rs) else cg G (aU l) g)=none:=by intro g d;rw[af (H g d)];simp[cg,d]
       refine⟨fun g=>if g=G.hb b then some (nOf rs) else cg G (aU l) g,fun g L d=>?_,⟨⟨nOf rs,by simp,bF _⟩,cs,e,K,?_⟩,?_⟩
       .dsimp only at d;split at d
        .rename_i F;exact F▸I _ _ bp
        .unfold cg at d;split at d
         .rename_i id hid;exact I g _ hid
         .cases d
       .refine aoC o hrel X Q fun f e t xs n g d=>⟨Z g d.1,d.2.imp_right fun h=>h.2⟩
       .have qy:=pn.ay3 (bQ:=fun g=>if g=G.hb b then some (nOf rs) else cg G (aU l) g) (aoq:=fun g=>(if g=G.hb b then some (nOf rs) else cg G (aU l) g)=none/\(G.nw g\/(m2 m=false/\G.ok g))) (fun g L d=>by
         have:g≠G.hb b:=by rintro rfl;simp[cg,bp]at d
         simp[this,d]) (fun g d=>⟨Z g d.1,d.2⟩) O
        rcases A with rfl|rfl<;>exact qy
     .cases j
    .cases j
   .cases j
  .cases j
 |cur =>
  dsimp only at j;generalize qh:st.sp=qw at j;split at j
  .rename_i b q;have qi:=qh;split at j
   .rename_i c M;split at j
    .rename_i z;simp only[aG]at z;obtain⟨⟨⟨⟨X,qz⟩,E⟩,T⟩,W⟩:=z;split at j
     .rename_i D qg s Q;cases j;obtain⟨cs,e,K,bp,hrel⟩:=o.bx b c M;have qj:G.hb b=g0:=by
       have R:=o.sp;rw[qi,qd,qk (.inr rfl)]at R;have x:Value.pointer (some ⟨g0,0,none⟩)=.pointer (some ⟨G.hb b,0,none⟩):=R.2;injection x with x
       injection x with x
       injection x with x
       exact x.symm
      subst qj;have H:∀g,G.own g=none->g≠G.hb b:=by rintro g d rfl;rw[bp]at d;cases d
      have qo:∀f e t xs,AC.ro f e t xs∈c->f=true:=fun f e t xs n=>PW qz f e t xs n
      by_cases n:m<=1
      .refine⟨fun g=>if g=G.hb b then some (nOf rs) else none,fun g L d=>?_,⟨⟨nOf rs,by simp,bF _⟩,cs,e,K,?_⟩,?_⟩
       .dsimp only at d;split at d
        .rename_i F;exact F▸I _ _ bp
        .cases d
       .refine aoC o hrel X Q fun f e t xs n g d=>⟨by simp[H g d.1],d.2.elim (fun h=>h) fun h=>by rw[qo f e t xs n]at h;cases h.1⟩
       .have A:m=0\/m=1:=by omega
        have Y:∀g id,G.own g=some (.bl id)->g≠G.hb b:=by rintro g id d rfl;rw[bp]at d;cases d
        rcases A with rfl|rfl
        .exact ahA o B E s (fun f g _ d=>⟨by simp[H g d.1],d.2.imp_right fun h=>h.2⟩) (fun g id d=>⟨by simp[Y g id d],.inl (o.V1 d)⟩) (.inl rfl)
        .exact ahA o B E s (fun f g S d=>⟨by simp[H g d.1],d.2.elim (fun h=>h) fun h=>by rw[S (by simp)]at h;cases h.1⟩) (fun g id d=>⟨by simp[Y g id d],o.V1 d⟩) (.inr rfl)
      .have A:m=2:=by have:=Gq W;omega
       subst A;have O:=(Iq (.inl rfl) (okE:=fun g=>G.own g=none/\(G.nw g\/(m2 2=false/\G.ok g))) (fun g d=>⟨d.1,d.2⟩) o (aU l) [] rs l us D B (pre:=[]) (seen:=[]) (by simp) (fun id len n=>by simp at n) (by rw[fs];exact E) T s).1;have Z:∀g,G.own g=none->(if g=G.hb b then some (nOf rs) else cg G (aU l) g)=none:=by intro g d;rw[af (H g d)];simp[cg,d]
       refine⟨fun g=>if g=G.hb b then some (nOf rs) else cg G (aU l) g,fun g L d=>?_,⟨⟨nOf rs,by simp,bF _⟩,cs,e,K,?_⟩,?_⟩
       .dsimp only at d;split at d
        .rename_i F;exact F▸I _ _ bp
        .unfold cg at d;split at d
         .rename_i id hid;exact I g _ hid
         .cases d
       .refine aoC o hrel X Q fun f e t xs n g d=>⟨Z g d.1,d.2.elim (fun h=>h) fun h=>by rw[qo f e t xs n]at h;cases h.1⟩
       .exact pn.ay3 (bQ:=fun g=>if g=G.hb b then some (nOf rs) else cg G (aU l) g) (aoq:=fun g=>(if g=G.hb b then some (nOf rs) else cg G (aU l) g)=none/\(G.nw g\/(m2 2=false/\G.ok g))) (fun g L d=>by
         have:g≠G.hb b:=by rintro rfl;simp[cg,bp]at d
         simp[this,d]) (fun g d=>⟨Z g d.1,d.2⟩) O
     .cases j
    .cases j
   .cases j
  .cases j
def aay {T : Tab} (qg : ∀ f con, C f = some con → tg P T f con) {f : FuncId} {m : Func} {con : PR} (z : P.funcs[f]? = some m) (qh : (m.name == "runtime.NumGoroutine") = false) (E : m.body.isNone = false) (qi : aFh con)
  (H:Nat->Option Hint) (qj:∀x r,con.g x=some r->∃N,aDD P C (p5.Se N) H m con.ps con.i con.pm con.rs con.qs con.m x=some r):aon P T f con:=by
 refine⟨⟨m,z,qh,E⟩,qi,fun x r M w qk ok nw own I q u F S=>?_⟩;obtain⟨N,K⟩:=qj x r M;obtain⟨W,K⟩:=aX K;simp only[aG]at W;obtain⟨⟨⟨ql,qm⟩,qn⟩,qK⟩:=W;obtain⟨c,X⟩:∃c,m.body=some c:=by
  cases h:m.body with
  |none=>rw[h]at E;cases E|some c=>exact⟨c,rfl⟩
 have qo:eX m=c:=by simp[eX,X]
 rw[qo]at K;obtain⟨L,B,qp,qq,qt,hrel,qu,qv⟩:=acF F con.i con.ps x q qn S;have hlen:q.length=con.ps.length:=by rw[<-awu (pm:=con.pm) con.i con.ps x (gU qm)];exact hrel.len.symm
 have Y:∀g,(∃k,(ZL ok nw own L B).own g=some k)->∃j,own g=some j:=by
  rintro g ⟨k,n⟩;simp only[ZL]at n;cases qw:own g with
  |none=>rw[qw]at n;cases n|some j=>exact⟨j,rfl⟩
 have qx:∀g,(∃k,(ZL ok nw own L B).own g=some k)->nw g:=by intro g M;obtain⟨j,s⟩:=Y g M;exact(F.bp g j s).1
 let R:fh:={w:=w,ok:=ok,nw:=nw,fr:=fun g=>∃k,(ZL ok nw own L B).own g=some k,hnw:=F.l4,pv:=u,hfr:=qx}
 have O:∀g,R.fr g->∃j,own g=some j:=Y;have qy:Inv R (ZL ok nw own L B) (ahp m.ntmps con.pm con.i con.ps x) {tmps:=q.toArray++Array.replicate (m.ntmps-q.toArray.size) undef,defers:=[]} w:=by unfold ahp;rw[qq,qt];refine auq (R:=R) F rfl rfl rfl rfl (fun g k n=>Exists.intro k n) qp rfl ?_ qu (fun t v qz=>aBW hrel qz);have:=Gq ql;simp[hlen];omega
 refine calls_of_wp z X (rR (w0:=R) (fun f con z=>(qg f con z).at qk fun b E=>by obtain⟨j,s⟩:=O b E;exact(F.bp b j s).2.2) H c (qy.aBA (at2 H)) K fun e qA da qB A d y=>?_)
 have post:∀e,e=Exit.normal\/e=Exit.ret->(match Sf P da m.results.toList with
   |some l=>asw da con.pm con.rs con.qs con.m l|none=>none)=some r->bodyPost P m (fun e A=>∃us,e=.returned (fu us)/\aom con w A ok nw own I u r us/\e5 (fun g=>(own g).isSome=true) w A) e qB A:=by
  intro e qC y;split at y
  .rename_i l qD;obtain⟨us,qE,Z⟩:=Wl (P:=P) d qD;have qF:∀g k,qA.own g=some k->w.heap.size<=g\/(own g).isSome=true:=by
    intro g k n;rcases(d.own g k n).1 with h1|h1
    .exact .inl h1
    .obtain⟨j,s⟩:=O g h1;exact .inr (by rw[s];rfl)
   have qd:∃qe,Ending.returned (fu us)=.returned (fu qe)/\aom con w A ok nw own I u r qe/\e5 (fun g=>(own g).isSome=true) w A:=by
    refine⟨us,rfl,Wo d d.nw d.rok rfl qF (fun D g k n=>?_) (fun D=>?_) qE y,?_⟩
    .rcases(d.own g k n).1 with h1|h1
     .exact h1
     .obtain⟨qL,Q⟩:=h1;obtain⟨qG,qH⟩:=qv D;subst qG;subst qH;simp only[ZL,Dt,Pl]at Q;split at Q<;>cases Q
    .have:∀(i:Nat) (o:List (Ty×Bool)) (x:Args o) (q:List Value),V9 w ok nw own I con.pm i o x q u->u=.pointer (some ⟨I,0,none⟩):=by
      intro i
      induction i with
      |zero =>
       intro o x q h;cases o with
       |nil=>exact h.elim
       |cons p o =>
        obtain⟨qf,_,h1,_⟩:=h;rcases D with D|D<;>rw[D]at h1<;>exact h1.1
      |succ i qI =>
       intro o x q h;cases o with
       |nil=>exact h.elim
       |cons p o =>
        obtain⟨v,qf,_,_,h1⟩:=h;exact qI o x.2 qf h1
     exact this _ _ _ _ S
    .exact⟨d.below.os,d.below.tape,d.below.output,d.below.size,fun k n z=>d.below.block k n fun hfr=>z (by obtain⟨j,s⟩:=O k hfr;rw[s];rfl)⟩
   rcases qC with rfl|rfl
   .exact bodyPost_end Z d.defers qd
   .exact bodyPost_ret Z d.defers qd
  .cases y
 cases e with
 |norm=>exact post .normal (.inl rfl) y|ret=>exact post .ret (.inr rfl) y|exit j=>cases y
def aJh {a b:Ty×Bool}{i f:CV}{g:Args [a,b]×Args []}{n:Args [b]}(h:asw st (.own true) [a,b] [] 2 [i,f]=some g)(d:Cj st [b] [f]=some n):g.1.2.1=n.1:=by
 simp only[asw,Nat.beq,ahl]at h;split at h
 .split at h
  .rename_i r c;cases h;simp only[Cj]at c d;split at c
   .split at c
    .rename_i y e;split at e
     .rename_i z j;rw[j]at d;cases d;cases e;cases c;rfl
     .cases e
    .cases c
   .cases c
  .cases h
 .cases h
def aJi {b q:Ty×Bool}{c:CV}{d:Args [b]×Args [q]}{n:Args [b]}(h:asw st (.own true) [b] [q] 2 [c]=some d)(f:Cj st [b] [c]=some n):d.1.1=n.1:=by
 simp only[asw,Nat.beq,ahl]at h;split at h
 .split at h
  .split at h
   .rename_i r y e g;cases h;rw[f]at e;cases e;rfl
   .cases h
  .cases h
 .cases h
def asH {T : Tab} (qj : ∀ f con, C f = some con → tg P T f con) {f : FuncId} {o : Func} {con : Sel} (D : P.funcs[f]? = some o) (M : (o.name == "runtime.NumGoroutine") = false) (p : o.body.isNone = false) (qk : nz con.ps con.i = some con.q)
  (H:Nat->Option Hint) (ql:∀x r,con.g x=some r->∃N,asx P C (p5.Se N) H o con.ps con.i con.a con.b con.q x=some r):aoo P T f con:=by
 refine⟨⟨o,D,M,p⟩,qk,fun x r W w qm ok nw own g0 E u I qn=>?_⟩;obtain⟨N,O⟩:=ql x r W;obtain⟨Z,O⟩:=aX O;simp only[aG]at Z;obtain⟨⟨⟨qo,qp⟩,qq⟩,qI⟩:=Z;obtain⟨c,qd⟩:∃c,o.body=some c:=by
  cases h:o.body with
  |none=>rw[h]at p;cases p|some c=>exact⟨c,rfl⟩
 have qt:eX o=c:=by simp[eX,qd]
 rw[qt]at O;obtain⟨L,B,qu,qv,qw,hrel,qx,qK⟩:=acF I con.i con.ps x E qq qn;have hlen:E.length=con.ps.length:=by rw[<-awu (pm:=(.own true)) con.i con.ps x (gU qp)];exact hrel.len.symm
 have qe:∀g,(∃k,(ZL ok nw own L B).own g=some k)->∃m,own g=some m:=by
  rintro g ⟨k,q⟩;simp only[ZL]at q;cases qy:own g with
  |none=>rw[qy]at q;cases q|some m=>exact⟨m,rfl⟩
 have qz:∀g,(∃k,(ZL ok nw own L B).own g=some k)->nw g:=by intro g W;obtain⟨m,y⟩:=qe g W;exact(I.bp g m y).1
 let R:fh:={w:=w,ok:=ok,nw:=nw,fr:=fun g=>∃k,(ZL ok nw own L B).own g=some k,hnw:=I.l4,pv:=u,hfr:=qz}
 have X:∀g,R.fr g->∃m,own g=some m:=qe;have qA:Inv R (ZL ok nw own L B) (ahp o.ntmps (.own true) con.i con.ps x) {tmps:=E.toArray++Array.replicate (o.ntmps-E.toArray.size) undef,defers:=[]} w:=by unfold ahp;rw[qv,qw];refine auq (R:=R) I rfl rfl rfl rfl (fun g k q=>Exists.intro k q) qu rfl ?_ qx (fun t v qB=>aBW hrel qB);have:=Gq qo;simp[hlen];omega
 refine calls_of_wp D qd (rR (w0:=R) (fun f con D=>(qj f con D).at qm fun b p=>by obtain⟨m,y⟩:=X b p;exact(I.bp b m y).2.2) H c (qA.aBA (at2 H)) O fun e qC da qD F i d=>?_)
 have post:∀e,e=Exit.normal\/e=Exit.ret->aBz P o con.a con.b con.q Ex.norm da=some r->bodyPost P o (fun e F=>∃us,e=.returned (fu us)/\aJa con w F ok nw own g0 u r us/\e5 (fun g=>(own g).isSome=true) w F) e qD F:=by
  intro e qE d;simp only[aBz]at d;split at d
  .rename_i qL qF qG;obtain⟨us,Q,qf⟩:=Wl (P:=P) i qG;obtain⟨z,s,rfl⟩:∃z s,us=[z,s]:=by
    match us,Q with
    |[z,s],_=>exact⟨z,s,rfl⟩|[],h=>exact h.elim|[_],h=>exact h.2.elim|_::_::_::_,h=>exact h.2.2.elim
   have qg:∀g k,qC.own g=some k->w.heap.size<=g\/(own g).isSome=true:=by
    intro g k q;rcases(i.own g k q).1 with h1|h1
    .exact .inl h1
    .obtain⟨m,y⟩:=X g h1;exact .inr (by rw[y];rfl)
   have qh:∃qi,Ending.returned (fu [z,s])=.returned (fu qi)/\aJa con w F ok nw own g0 u r qi/\e5 (fun g=>(own g).isSome=true) w F:=by
    refine⟨[z,s],rfl,⟨z,s,rfl,?_⟩,?_⟩
    .split at d
     .rename_i n M;cases S:an2 con.b.1 n.1 with
      |true =>
       rw[S]at d;simp only[br]at d;split at d
       .rename_i Y K;cases d;have p:Y.1.2.1=n.1:=aJh K M;dsimp only;rw[p,S];have:=Wo (con:=aKT con) i i.nw i.rok (g0:=g0) rfl qg (fun j=>by cases j) (fun j=>by rcases j with j|j<;>cases j) Q K;rw[<-p];exact this
       .cases d
      |false =>
       rw[S]at d;simp only[br]at d;obtain⟨A,d⟩:=aX d;split at d
       .rename_i Y K;cases d;have p:Y.1.1=n.1:=aJi K M;dsimp only;rw[p,S];have:=Wo (con:=aLT con) i i.nw i.rok (g0:=g0) rfl qg (fun j=>by cases j) (fun j=>by rcases j with j|j<;>cases j) (l:=[qF]) (us:=[s]) ⟨Q.2.1,trivial⟩ K;rw[<-p];refine⟨this,fun qH=>?_⟩;unfold aKv at A;rw[qH]at A;split at A
        .rename_i l;obtain⟨E,rfl,hrel⟩:=Q.1;rw[aG]at A;exact⟨E,rfl,by rw[<-hrel.len,aP A.1],ant hrel (aeq A.2)⟩
        .cases A
        .contradiction
       .cases d
     .cases d
    .exact⟨i.below.os,i.below.tape,i.below.output,i.below.size,fun k q D=>i.below.block k q fun hfr=>D (by obtain⟨m,y⟩:=X k hfr;rw[y];rfl)⟩
   rcases qE with rfl|rfl
   .exact bodyPost_end qf i.defers qh
   .exact bodyPost_ret qf i.defers qh
  .cases d
 cases e with
 |norm=>exact post .normal (.inl rfl) d|ret=>exact post .ret (.inr rfl) d|exit m=>cases d
end
end Go.Am
