/- No condition. -/
import Derived.Test.YtaheoongenkdbaaGreatDoorQsAmFn
set_option linter.all false
namespace Go.Am
open Go.RowKit
section
variable {N:Nat} {P:Program} {C:FuncId->Option Any} {w0:eA} {w:World} {G:Gh} {st:St} {a:Act}
def Wp (ok nw:Nat->Prop)(own:Nat->Option Nat)(L:List (Nat×fa×Value))(B:Option (Nat×Nat×List AC)):Gh :=
 {nw:=nw,ok:=ok,hb:=fun _=>match B with|some (_,b,_)=>b|none=>0,hv:=fun i=>hvL L i,own:=fun g=>match own g with|none=>none|some _=>BR L B g}
def Tj:Option (Nat×Nat×List AC)->List (Nat×List AC)
 |none=>[]|some (d,_,l)=>[(d,l)]
def ahb (L:List (Nat×fa×Value)):List (Nat×Option fa):=L.map fun z=>(z.1,some z.2.1)
structure art (w:World) (ok nw:Nat->Prop) (own:Nat->Option Nat) (L:List (Nat×fa×Value)) (B:Option (Nat×Nat×List AC)):Prop where
 row:∀z∈L,z.2.1.w=true/\0<z.2.1.t.n/\(∃rows,w.ownsRow 0 z.2.1.e z.2.1.t.n z.2.2 z.2.1.xs.length rows/\eJ w (fun g=>own g=none/\(nw g\/(z.2.1.f=false/\ok g))) z.2.1.t rows z.2.1.xs)/\∀g,z.2.2.ownBlock=some g->(own g).isSome=true
 inj:∀z∈L,∀z'∈L,∀g,z.2.2.ownBlock=some g->z'.2.2.ownBlock=some g->z=z'
 uniq:∀z∈L,∀z'∈L,z.1=z'.1->z=z'
 box:∀d g l,B=some (d,g,l)->(own g).isSome=true/\L=[]/\∃cs e f t x,w.heap[g]?=some (.cells cs e (0,0))/\l=ex f t x/\Rd w (fun g=>own g=none/\(nw g\/(f=false/\ok g))) t x cs.toList
def Tk {ok nw:Nat->Prop}{own:Nat->Option Nat}{L:List (Nat×fa×Value)}{B:Option (Nat×Nat×List AC)}{f:Bool}{g:Nat}(h:own g=none/\(nw g\/(f=false/\ok g))):RO (Wp ok nw own L B) f g :=
 ⟨by simp[Wp,h.1],h.2⟩
def apC {ok nw:Nat->Prop}{own:Nat->Option Nat}{W:Nat->Prop}(X:Handed w W ok nw own){R:eA}(Y:R.hd=fun _=>none)(A:R.w=w)(cU:R.ok=ok)(hnw:R.nw=nw){L:List (Nat×fa×Value)}{B:Option (Nat×Nat×List AC)}
  (hfr:∀g k,(Wp ok nw own L B).own g=some k->R.fr g) (j:art w ok nw own L B) {nt:Nat} {tm:List (Nat×AV)} {sp:AV} (Z:a.defers=[]) (qa:a.tmps.size=nt)
  (qb:hI (Wp ok nw own L B) w (Tj B) (ahb L) sp R.pv) (qd:∀t v,look tm t=some v->hI (Wp ok nw own L B) w (Tj B) (ahb L) v (a.tmps.getD t undef)) :
  Inv R (Wp ok nw own L B) {nt:=nt,tm:=tm,bx:=Tj B,bl:=ahb L,sp:=sp} a w:=by
 subst A;have qe:∀z∈L,∀g,z.2.2.ownBlock=some g->(Wp ok nw own L B).own g=some (.bl z.1):=by
  intro z p g h;have r:=(j.row z p).2.2.2 g h;obtain⟨D,E⟩:=ij.1 r;have qf:B=none:=by
   cases B with
   |none=>rfl
   |some q =>
    obtain⟨d,s,l⟩:=q;have:=(j.box d s l rfl).2.1;rw[this]at p;simp at p
  subst qf;simp only[Wp,E,BR];unfold MM;cases i:L.find? fun z=>z.2.2.ownBlock==some g with
  |none =>
   have:=aju.1 i z p;simp[h]at this
  |some y =>
   have m:=afE i;have n:=WT i;rw[<-j.inj z p y n g h (by simpa using m)];rfl
 refine⟨hnw.symm,cU.symm,ez.refl _ _,Z,qa,qb,fun g b qj Q=>(by rw[Y]at Q;cases Q),qd,fun d l o=>?_,fun id b qg=>?_,fun g k c=>?_⟩
 .cases B with
  |none=>simp[Tj,look]at o
  |some q =>
   obtain⟨F,s,qh⟩:=q;simp only[Tj,ar]at o;by_cases H:F=d
   .rw[ah H]at o;cases o;subst H;obtain⟨m,n,cs,e,f,t,x,I,K,S⟩:=j.box F s l rfl;refine⟨cs,e,I,?_,?_⟩
    .obtain⟨D,E⟩:=ij.1 m;simp[Wp,E,BR]
    .rw[K];exact S2 (gS (fun g h=>Tk (f:=f) h) S)
   .rw[af H]at o;simp[look]at o
 .obtain⟨v,M⟩:=aaF qg;obtain⟨m,n,⟨rows,I,K⟩,S⟩:=j.row _ M;have T:(Wp ok nw own L B).hv id=v:=VH j.uniq M;refine⟨fun _=>⟨rows,by rw[T];exact I,fun g h=>?_,kF (fun g h=>Tk h) K⟩,fun A=>?_,n⟩
  .rw[T]at h;exact qe _ M g h
  .rw[show b.w=true from m]at A;cases A
 .have qi:=c;unfold Wp at c;dsimp only at c;cases r:own g with
  |none=>rw[r]at c;cases c
  |some D =>
   rw[r]at c;dsimp only at c;refine⟨.inr (hfr g k qi),(X.bd g D r).2.1,?_⟩;have rows:MM L g=some k->aAV (Wp ok nw own L B) (Tj B) (ahb L) g k:=by
    intro u;unfold MM at u;cases i:L.find? fun z=>z.2.2.ownBlock==some g with
    |none=>rw[i]at u;cases u
    |some y =>
     rw[i]at u;cases u;have m:=afE i;have n:=WT i;refine⟨jz n,?_⟩;rw[show(Wp ok nw own L B).hv y.1=y.2.2 from VH j.uniq n];simpa using m
   cases B with
   |none=>have:=rows c;cases k with|bx d=>exact this|bl id=>exact this|hid=>trivial
   |some q =>
    obtain⟨F,s,qh⟩:=q;simp only[BR]at c;by_cases O:g=s
    .rw[ah O]at c;cases c;exact⟨by simp[Tj,ar],by simp[Wp,O]⟩
    .rw[af O]at c;have:=rows c;cases k with|bx d=>exact this|bl id=>exact this|hid=>trivial
def ayc {f:Bool}{G:Gh}{bx:List (Nat×List AC)}{bl:List (Nat×Option fa)}{p:Ty×Bool}{x:p.1.D}{v:Value}(b:p.2=true\/p.1.n=1)(h:aaD w (RO G f) p x v) :
  ei G w bx bl (match p.2 with|true=>.agg (ex f p.1 x)|false=>.c (match ex f p.1 x with|[c]=>c|_=>.none)) v:=by
 have:=BQ (f:=f) (bx:=bx) (bl:=bl) (rs:=[p]) (x:=(x,())) (vs:=[v]) (by simp only[eh,aD,ju];exact⟨b.imp_right fun h=>by rw[h];rfl,trivial⟩) ⟨v,[],rfl,h,rfl⟩
 exact this.1
def Y5 {ok nw:Nat->Prop}{own:Nat->Option Nat}{qf:Nat->Prop}(D:Handed w qf ok nw own){g0:Nat}{u:Value}{pm:PM}:∀(i:Nat) (ps:List (Ty×Bool)) (x:Args ps) (vs:List Value),eh ps=true->S7 w ok nw own g0 pm i ps x vs u ->
  ∃L B,art w ok nw own L B/\(exP pm i ps x).2.2.1=ahb L/\(exP pm i ps x).2.2.2=Tj B/\b6 (ei (Wp ok nw own L B) w (Tj B) (ahb L)) (exP pm i ps x).1 vs/\ei (Wp ok nw own L B) w (Tj B) (ahb L) (exP pm i ps x).2.1 u /\
   (pm=.rd->L=[]/\B=none)
 |0,[],x,vs,_,h=>h.elim|_+1,[],x,vs,_,h=>h.elim|0,p::ps,x,vs,t,h=>by
  obtain⟨M,rfl,F,O⟩:=h;simp only[eh,aD,ju]at t;have H:p.2=true\/p.1.n=1:=t.1.imp_right aI;have rest:∀L B,b6 (ei (Wp ok nw own L B) w (Tj B) (ahb L)) (exF false ps x.2) M:=fun L B =>
   BQ t.2 (iW (fun g m=>Tk ⟨D.cU g m,.inr ⟨rfl,m⟩⟩) O)
  cases pm with
  |rd =>
   have E:aaD w ok p x.1 u:=F;have r:ei (Wp ok nw own [] none) w (Tj none) (ahb []) (aEc .rd p x.1).1 u:=ayc (f:=false) H (by obtain⟨cs,r,I⟩:=E;exact⟨cs,gS (fun g m=>Tk (f:=false) ⟨D.cU g m,.inr ⟨rfl,m⟩⟩) r,I⟩)
   exact⟨[],none,⟨fun z j=>by simp at j,fun z j=>by simp at j,fun z j=>by simp at j,fun d g l o=>by cases o⟩,rfl,rfl,⟨r,rest [] none⟩,r,fun _=>⟨rfl,rfl⟩⟩
  |own f =>
   have E:ax3 w (fun g=>own g=none/\(nw g\/(f=false/\ok g))) own p x.1 0 u:=F;obtain⟨L,y,Z⟩:=aAR (id:=62500) (f:=f) E H;have Q:art w ok nw own L none:=by
    refine⟨fun z j=>?_,fun z j qa qb g m qg=>?_,y.uniq,fun d g l o=>by cases o⟩
    .obtain⟨r,I,q⟩:=y.rows z j;refine⟨q.wr,q.pos,?_,fun g m=>by rw[q.nS g m];rfl⟩;obtain⟨rows,K,R⟩:=q.row;exact⟨rows,K,ado (fun qh g m=>by rw[q.nf,qh,Bool.or_false];exact m) R⟩
    .obtain⟨r,_,q⟩:=y.rows z j;obtain⟨K,_,S⟩:=y.rows qa qb;have qi:=q.nS g m;have qd:=S.nS g qg;rw[qi]at qd;have:=eO qd;exact y.uniq z j qa qb (by omega)
   have hrel:∀c v,rY L c v->bm (Wp ok nw own L none) w (Tj none) (ahb L) c v:=by
    intro c v A;cases c with
    |own i len =>
     cases len with
     |some l=>exact A.elim
     |none =>
      obtain⟨b,T⟩:=A;have qe:(Wp ok nw own L none).hv i=v:=VH Q.uniq T;refine⟨jz T,?_,qe.symm⟩;rw[qe];obtain⟨_,_,⟨rows,qj,_⟩,_⟩:=Q.row _ T;rcases qj.2 with ⟨o,_⟩|⟨qm,cap,cur,o,_⟩
      .exact⟨_,_,_,o⟩
      .exact⟨_,_,_,o⟩
    |int k n=>exact A|bool b=>exact A|str s=>exact A|_=>exact A.elim
   exact⟨L,none,Q,y.q,rfl,⟨Tc hrel Z,rest L none⟩,Tc hrel Z,fun h=>by cases h⟩
  |box =>
   obtain⟨W,bd,cs,e,X,Y⟩:=(show u=.pointer (some ⟨g0,0,none⟩)/\(own g0).isSome=true/\∃cs e,w.heap[g0]?=some (.cells cs e (0,0))/\Rd w ok p.1 x.1 cs.toList from F);have hrel:ei (Wp ok nw own [] (some (4000000,g0,ex false p.1 x.1))) w (Tj (some (4000000,g0,ex false p.1 x.1))) (ahb []) (.c (.ptr 4000000 0)) u:=⟨by simp[Tj,ar],W⟩;refine⟨[],some (4000000,g0,ex false p.1 x.1),⟨fun z j=>by simp at j,fun z j=>by simp at j,fun z j=>by simp at j,fun d g l o=>?_⟩,rfl,rfl,⟨hrel,rest _ _⟩,hrel,fun h=>by cases h⟩;cases o;exact⟨bd,rfl,cs,e,false,p.1,x.1,X,rfl,gS (fun g m=>⟨D.cU g m,.inr ⟨rfl,m⟩⟩) Y⟩
  |cur =>
   obtain⟨W,bd,cs,e,X,Y⟩:=(show u=.pointer (some ⟨g0,0,none⟩)/\(own g0).isSome=true/\∃cs e,w.heap[g0]?=some (.cells cs e (0,0))/\Rd w (fun g=>own g=none/\nw g) p.1 x.1 cs.toList from F);have hrel:ei (Wp ok nw own [] (some (4000000,g0,ex true p.1 x.1))) w (Tj (some (4000000,g0,ex true p.1 x.1))) (ahb []) (.c (.ptr 4000000 0)) u:=⟨by simp[Tj,ar],W⟩;refine⟨[],some (4000000,g0,ex true p.1 x.1),⟨fun z j=>by simp at j,fun z j=>by simp at j,fun z j=>by simp at j,fun d g l o=>?_⟩,rfl,rfl,⟨hrel,rest _ _⟩,hrel,fun h=>by cases h⟩;cases o;exact⟨bd,rfl,cs,e,true,p.1,x.1,X,rfl,gS (fun g m=>⟨m.1,.inl m.2⟩) Y⟩
 |i+1,p::ps,x,vs,t,h=>by obtain⟨v,M,rfl,E,O⟩:=h;simp only[eh,aD,ju]at t;have H:p.2=true\/p.1.n=1:=t.1.imp_right aI;obtain⟨L,B,r,I,q,K,R,S⟩:=Y5 D i ps x.2 M t.2 O;refine⟨L,B,r,I,q,⟨ayc (f:=false) H ?_,K⟩,R,S⟩;obtain⟨cs,qk,ql⟩:=E;exact⟨cs,gS (fun g m=>Tk (f:=false) ⟨D.cU g m,.inr ⟨rfl,m⟩⟩) qk,ql⟩
def aru {pm:PM}:∀(i:Nat) (ps:List (Ty×Bool)) (x:Args ps),i<ps.length->(exP pm i ps x).1.length=ps.length
 |0,p::ps,x,_=>by
  have:∀{f:Bool} {rs:List (Ty×Bool)} {y:Args rs},(exF f rs y).length=rs.length:=by
   intro f rs
   induction rs with
   |nil=>intro y;rfl|cons a l b=>intro y;simp[exF,b]
  simp[exP,this]
 |i+1,p::ps,x,h=>by have:=aru (pm:=pm) i ps x.2 (by simpa using h);simp[exP,this]
 |0,[],_,h=>by simp at h
 |_+1,[],_,h=>by simp at h
def nU.atK {w:World}{okE aj0:Nat->Prop}{own bL:Nat->Option Nat}(m:∀g j,own g=some j->bL g=some j)(n:∀g,okE g->aj0 g):∀{rs:List (Ty×Bool)} {x:Args rs} {j:Nat} {vs:List Value},nU w okE own rs x j vs->nU w aj0 bL rs x j vs:=by
 have o:∀{t:Ty} {x:t.D} {j:Nat} {c:List Value},FrC w okE own t x j c->FrC w aj0 bL t x j c:=by
  intro t
  induction t with
  |int k=>exact fun h=>h
  |bool=>exact fun h=>h
  |str=>exact fun h=>h
  |unit=>exact fun h=>h
  |pair a b p q =>
   intro x j c h;obtain⟨r,s,e,d,f⟩:=h;exact⟨r,s,e,p d,q f⟩
  |sl e t _ =>
   intro x j c h;obtain⟨v,rows,d,f,i,u,y⟩:=h;exact⟨v,rows,d,f,i,fun g z=>m g _ (u g z),kF n y⟩
 intro rs
 induction rs with
 |nil=>exact fun h=>h
 |cons a l A =>
  intro x j vs h;obtain⟨v,B,e,⟨c,d,f⟩,i⟩:=h;exact⟨v,B,e,⟨c,o d,f⟩,A i⟩
def akg (h:Inv w0 G st a w){p:Ty×Bool}{c:List AC}{cs:Array Value}(hrel:b6 (bm G w st.bx st.bl) c cs.toList)(j:vg c=true){y:p.1.D}(hi:imV st p (.agg c)=some y){ok:Nat->Prop}
  (cU:∀f e t xs,AC.ro f e t xs∈c->∀g,RO G f g->ok g):dP w ok [p] (y,()) [.agg cs]:=by
 refine⟨_,[],rfl,awa h (x:=.agg c) (u:=.agg cs) ⟨cs,rfl,hrel⟩ (fun t n v xs i k l=>?_) hi,rfl⟩;refine iV h k l (fun id len b d _=>?_) (fun f e u m d=>?_)
 .subst d;exact absurd i (adt j id len)
 .subst d;exact cU f e u m i
def atL (l m:List CV):aN (l++m)=aN l++aN m:=by
 induction l with
 |nil=>rfl|cons c l b=>simp[aN,b]
def Tl (o:Inv w0 G st a w){w1:World}{ok nw:Nat->Prop}{own:Nat->Option Nat}{g0:Nat}{u:Value}(hnw:G.nw=nw)(cU:G.ok=ok)(qa:w0.pv=u)(I:∀g k,G.own g=some k->w1.heap.size<=g\/(own g).isSome=true)
  {con:Nf} (qn:con.pm=.rd->∀g k,G.own g=some k->w1.heap.size<=g) (qi:con.pm=.box\/con.pm=.cur->u=.pointer (some ⟨g0,0,none⟩)) {l:List CV} {us:List Value} (B:b6 (ei G w st.bx st.bl) l us) {r:Args con.rs×Args con.qs}
  (j:anJ st con.pm con.rs con.qs con.m l=some r):ajW con w1 w ok nw own g0 u r us:=by
 obtain⟨qy,i,pm,rs,m,qz,g⟩:=con;dsimp only at *;subst hnw;subst cU;have qb:∀(bL:Nat->Option Nat),(∀g,G.own g=none->bL g=none)->∀g,RO G (m2 m) g->bL g=none/\(G.nw g\/(m2 m=false/\G.ok g)):=fun bL h g d=>⟨h g d.1,d.2⟩
 unfold anJ at j;cases pm with
 |rd =>
  dsimp only at j;split at j
  .split at j
   .rename_i qj n;split at j
    .rename_i _ b;split at j
     .rename_i c M;split at j
      .rename_i z;rw[aD]at z;split at j
       .rename_i D s;cases j;obtain⟨cs,e,K,bd,hrel⟩:=o.bx b c M;obtain⟨v,rfl⟩:∃v,us=[v]:=by
         cases us with
         |nil=>exact B.elim
         |cons v us =>
          cases us with
          |nil=>exact⟨v,rfl⟩|cons _ _=>exact B.2.elim
        have qk:v=.pointer (some ⟨G.hb b,0,none⟩):=B.1.2;have qd:=qn rfl _ _ bd;refine⟨fun g=>if g=G.hb b then some 0 else none,fun g L d=>?_,trivial,?_⟩
        .dsimp only at d;split at d
         .rename_i F;exact .inl (F▸qd)
         .cases d
        .have key:dP w (fun g=>(if g=G.hb b then some 0 else none)=(none:Option Nat)/\(G.nw g\/(qj=false/\G.ok g))) rs D [.agg cs]:=by
          match rs,D,s with
          |[p],D,s =>
           simp only[AL]at s;split at s
           .rename_i y qo;cases s;refine akg o hrel z.2 qo fun f e t xs n g d=>⟨?_,?_⟩
            .have:g≠G.hb b:=by rintro rfl;have:=d.1;rw[bd]at this;cases this
             simp[this]
            .have:=apA _ z.1 _ n;refine d.2.imp_right fun h=>⟨?_,h.2⟩
             cases qj with
             |false=>rfl
             |true =>
              have S:=this rfl;rw[S]at h;cases h.1
           .cases s
          |[],_,s=>simp[AL]at s
          |_::_::_,_,s =>
           simp only[AL]at s;split at s<;>cases s
         unfold rdM at n;split at n
         .cases n;exact⟨G.hb b,cs,e,by rw[qk],qd,by simp,K,iW (fun g d=>⟨d.1,d.2.elim (fun h=>h) fun h=>by cases h.1⟩) key⟩
         .cases n;exact⟨G.hb b,cs,e,by rw[qk],qd,by simp,K,iW (fun g d=>⟨d.1,d.2.imp_right fun h=>h.2⟩) key⟩
         .cases n
       .cases j
      .cases j
     .cases j
    .cases j
   .cases j
  .cases j
 |own f =>
  dsimp only at j;split at j
  .rename_i n;rw[ju]at n;have A:m=2\/m=3:=n.imp aI aI;split at j
   .split at j
    .rename_i z;rw[aD]at z;split at j
     .rename_i D s;cases j;have O:=(F8 A (qb (b7 G (aN l)) fun g d=>by simp[b7,d]) o (aN l) [] rs l us D B (pre:=[]) (seen:=[]) (by simp) (fun id len n=>by simp at n) (by rw[fS];exact z.1) z.2 s).1;refine⟨b7 G (aN l),fun g L d=>?_,rfl,?_⟩
      .unfold b7 at d;split at d
       .rename_i id hid;exact I g _ hid
       .cases d
      .rcases A with rfl|rfl<;>exact O
     .cases j
    .cases j
   .rename_i q;split at j
    .rename_i c M;split at j
     .rename_i z;simp only[aD]at z;obtain⟨⟨E,T⟩,W⟩:=z;split at j
      .rename_i D qe s Q;cases j;have qp:ei G w st.bx st.bl c u:=by have:=o.sp;rw[M,qa]at this;exact this
       rw[atL]at E;obtain⟨O,qq,R,x,qt⟩:=F8 A (qb (b7 G (aN l++aN [c])) fun g d=>by simp[b7,d]) o (aN l++aN [c]) (aN [c]) rs l us D B (pre:=[]) (seen:=[]) (by simp) (fun id len n=>by simp at n) E T s;obtain⟨ql,_⟩:=F8 A (qb (b7 G (aN l++aN [c])) fun g d=>by simp[b7,d]) o (aN l++aN [c]) [] [q] [c] [u] qe ⟨qp,trivial⟩ (pre:=aN l) (seen:=qq) (by simp) (fun id len n=>x id len (by simpa using n)) (by rw[fS];exact R) W Q;rw[qt]at ql;refine⟨b7 G (aN l++aN [c]),fun g L d=>?_,ql,?_⟩
       .unfold b7 at d;split at d
        .rename_i id hid;exact I g _ hid
        .cases d
       .rcases A with rfl|rfl<;>exact O
      .cases j
     .cases j
    .cases j
   .cases j
  .cases j
 |box =>
  dsimp only at j;generalize qf:st.sp=qu at j;split at j
  .rename_i b q;have qg:=qf;split at j
   .rename_i c M;split at j
    .rename_i z;simp only[aD]at z;obtain⟨⟨⟨X,E⟩,T⟩,W⟩:=z;split at j
     .rename_i D qe s Q;cases j;obtain⟨cs,e,K,bd,hrel⟩:=o.bx b c M;have qh:G.hb b=g0:=by
       have R:=o.sp;rw[qg,qa,qi (.inl rfl)]at R;have x:Value.pointer (some ⟨g0,0,none⟩)=.pointer (some ⟨G.hb b,0,none⟩):=R.2;injection x with x
       injection x with x
       injection x with x
       exact x.symm
      subst qh;have H:∀g,G.own g=none->g≠G.hb b:=by rintro g d rfl;rw[bd]at d;cases d
      by_cases n:m<=1
      ·
       refine⟨fun g=>if g=G.hb b then some (nOf rs) else none,fun g L d=>?_,⟨⟨nOf rs,by simp,bP _⟩,cs,e,K,?_⟩,?_⟩
       .dsimp only at d;split at d
        .rename_i F;exact F▸I _ _ bd
        .cases d
       .refine akg o hrel X Q fun f e t xs n g d=>⟨by simp[H g d.1],d.2.imp_right fun h=>h.2⟩
       .have A:m=0\/m=1:=by omega
        have Y:∀g id,G.own g=some (.bl id)->g≠G.hb b:=by rintro g id d rfl;rw[bd]at d;cases d
        rcases A with rfl|rfl
        .exact adu o B E s (fun f g _ d=>⟨by simp[H g d.1],d.2.imp_right fun h=>h.2⟩) (fun g id d=>⟨by simp[Y g id d],.inl (o.S1 d)⟩) (.inl rfl)
        .exact adu o B E s (fun f g S d=>⟨by simp[H g d.1],d.2.elim (fun h=>h) fun h=>by rw[S (by simp)]at h;cases h.1⟩) (fun g id d=>⟨by simp[Y g id d],o.S1 d⟩) (.inr rfl)
      .have A:m=2\/m=3:=by have:=Ep W;omega
       have qv:vT st rs l=true:=by rcases A with rfl|rfl<;>exact T
       have O:=(F8 A (okE:=fun g=>G.own g=none/\(G.nw g\/(m2 m=false/\G.ok g))) (fun g d=>⟨d.1,d.2⟩) o (aN l) [] rs l us D B (pre:=[]) (seen:=[]) (by simp) (fun id len n=>by simp at n) (by rw[fS];exact E) qv s).1;have Z:∀g,G.own g=none->(if g=G.hb b then some (nOf rs) else b7 G (aN l) g)=none:=by intro g d;rw[af (H g d)];simp[b7,d]
       refine⟨fun g=>if g=G.hb b then some (nOf rs) else b7 G (aN l) g,fun g L d=>?_,⟨⟨nOf rs,by simp,bP _⟩,cs,e,K,?_⟩,?_⟩
       .dsimp only at d;split at d
        .rename_i F;exact F▸I _ _ bd
        .unfold b7 at d;split at d
         .rename_i id hid;exact I g _ hid
         .cases d
       .refine akg o hrel X Q fun f e t xs n g d=>⟨Z g d.1,d.2.imp_right fun h=>h.2⟩
       .have qw:=nU.atK (bL:=fun g=>if g=G.hb b then some (nOf rs) else b7 G (aN l) g) (aj0:=fun g=>(if g=G.hb b then some (nOf rs) else b7 G (aN l) g)=none/\(G.nw g\/(m2 m=false/\G.ok g))) (fun g L d=>by
         have:g≠G.hb b:=by rintro rfl;simp[b7,bd]at d
         simp[this,d]) (fun g d=>⟨Z g d.1,d.2⟩) O
        rcases A with rfl|rfl<;>exact qw
     .cases j
    .cases j
   .cases j
  .cases j
 |cur =>
  dsimp only at j;generalize qf:st.sp=qu at j;split at j
  .rename_i b q;have qg:=qf;split at j
   .rename_i c M;split at j
    .rename_i z;simp only[aD]at z;obtain⟨⟨⟨⟨X,qx⟩,E⟩,T⟩,W⟩:=z;split at j
     .rename_i D qe s Q;cases j;obtain⟨cs,e,K,bd,hrel⟩:=o.bx b c M;have qh:G.hb b=g0:=by
       have R:=o.sp;rw[qg,qa,qi (.inr rfl)]at R;have x:Value.pointer (some ⟨g0,0,none⟩)=.pointer (some ⟨G.hb b,0,none⟩):=R.2;injection x with x
       injection x with x
       injection x with x
       exact x.symm
      subst qh;have H:∀g,G.own g=none->g≠G.hb b:=by rintro g d rfl;rw[bd]at d;cases d
      have qm:∀f e t xs,AC.ro f e t xs∈c->f=true:=fun f e t xs n=>Nk qx f e t xs n
      by_cases n:m<=1
      .refine⟨fun g=>if g=G.hb b then some (nOf rs) else none,fun g L d=>?_,⟨⟨nOf rs,by simp,bP _⟩,cs,e,K,?_⟩,?_⟩
       .dsimp only at d;split at d
        .rename_i F;exact F▸I _ _ bd
        .cases d
       .refine akg o hrel X Q fun f e t xs n g d=>⟨by simp[H g d.1],d.2.elim (fun h=>h) fun h=>by rw[qm f e t xs n]at h;cases h.1⟩
       .have A:m=0\/m=1:=by omega
        have Y:∀g id,G.own g=some (.bl id)->g≠G.hb b:=by rintro g id d rfl;rw[bd]at d;cases d
        rcases A with rfl|rfl
        .exact adu o B E s (fun f g _ d=>⟨by simp[H g d.1],d.2.imp_right fun h=>h.2⟩) (fun g id d=>⟨by simp[Y g id d],.inl (o.S1 d)⟩) (.inl rfl)
        .exact adu o B E s (fun f g S d=>⟨by simp[H g d.1],d.2.elim (fun h=>h) fun h=>by rw[S (by simp)]at h;cases h.1⟩) (fun g id d=>⟨by simp[Y g id d],o.S1 d⟩) (.inr rfl)
      .have A:m=2:=by have:=Ep W;omega
       subst A;have O:=(F8 (.inl rfl) (okE:=fun g=>G.own g=none/\(G.nw g\/(m2 2=false/\G.ok g))) (fun g d=>⟨d.1,d.2⟩) o (aN l) [] rs l us D B (pre:=[]) (seen:=[]) (by simp) (fun id len n=>by simp at n) (by rw[fS];exact E) T s).1;have Z:∀g,G.own g=none->(if g=G.hb b then some (nOf rs) else b7 G (aN l) g)=none:=by intro g d;rw[af (H g d)];simp[b7,d]
       refine⟨fun g=>if g=G.hb b then some (nOf rs) else b7 G (aN l) g,fun g L d=>?_,⟨⟨nOf rs,by simp,bP _⟩,cs,e,K,?_⟩,?_⟩
       .dsimp only at d;split at d
        .rename_i F;exact F▸I _ _ bd
        .unfold b7 at d;split at d
         .rename_i id hid;exact I g _ hid
         .cases d
       .refine akg o hrel X Q fun f e t xs n g d=>⟨Z g d.1,d.2.elim (fun h=>h) fun h=>by rw[qm f e t xs n]at h;cases h.1⟩
       .exact nU.atK (bL:=fun g=>if g=G.hb b then some (nOf rs) else b7 G (aN l) g) (aj0:=fun g=>(if g=G.hb b then some (nOf rs) else b7 G (aN l) g)=none/\(G.nw g\/(m2 2=false/\G.ok g))) (fun g L d=>by
         have:g≠G.hb b:=by rintro rfl;simp[b7,bd]at d
         simp[this,d]) (fun g d=>⟨Z g d.1,d.2⟩) O
     .cases j
    .cases j
   .cases j
  .cases j
def W6 {T : Tab} (qf : ∀ f con, C f = some con → rO P T f con) {f : FuncId} {n : Func} {con : Nf} (A : P.funcs[f]? = some n) (qg : (n.name == "runtime.NumGoroutine") = false) (F : n.body.isNone = false) (qh : azn con)
  (H:Nat->Option Hint) (qi:∀x r,con.g x=some r->∃N,axU P C (nT.J9 N) H n con.ps con.i con.pm con.rs con.qs con.m x=some r):ajX P T f con:=by
 refine⟨⟨n,A,qg,F⟩,qh,fun x r O w qj ok nw own K s u I W=>?_⟩;obtain⟨N,M⟩:=qi x r O;obtain⟨X,M⟩:=aR M;simp only[aD]at X;obtain⟨⟨⟨qk,ql⟩,qm⟩,qI⟩:=X;obtain⟨c,Y⟩:∃c,n.body=some c:=by
  cases h:n.body with
  |none=>rw[h]at F;cases F|some c=>exact⟨c,rfl⟩
 have qn:iu n=c:=by simp[iu,Y]
 rw[qn]at M;obtain⟨L,B,qo,qp,qq,hrel,qt,qu⟩:=Y5 I con.i con.ps x s qm W;have hlen:s.length=con.ps.length:=by rw[<-aru (pm:=con.pm) con.i con.ps x (fV ql)];exact hrel.len.symm
 have Z:∀g,(∃k,(Wp ok nw own L B).own g=some k)->∃j,own g=some j:=by
  rintro g ⟨k,o⟩;simp only[Wp]at o;cases qv:own g with
  |none=>rw[qv]at o;cases o|some j=>exact⟨j,rfl⟩
 have qw:∀g,(∃k,(Wp ok nw own L B).own g=some k)->nw g:=by intro g O;obtain⟨j,y⟩:=Z g O;exact(I.bd g j y).1
 let R:eA:={w:=w,ok:=ok,nw:=nw,fr:=fun g=>∃k,(Wp ok nw own L B).own g=some k,hnw:=I.kE,pv:=u,hfr:=qw}
 have Q:∀g,R.fr g->∃j,own g=some j:=Z;have qx:Inv R (Wp ok nw own L B) (adi n.ntmps con.pm con.i con.ps x) {tmps:=s.toArray++Array.replicate (n.ntmps-s.toArray.size) undef,defers:=[]} w:=by unfold adi;rw[qp,qq];refine apC (R:=R) I rfl rfl rfl rfl (fun g k o=>Exists.intro k o) qo rfl ?_ qt (fun t v qy=>awo hrel qy);have:=Ep qk;simp[hlen];omega
 refine calls_of_wp A Y (pG (w0:=R) (fun f con A=>(qf f con A).at qj fun b F=>by obtain⟨j,y⟩:=Q b F;exact(I.bd b j y).2.2) H c (qx.av3 (apf H)) M fun e qz cA qA D d z=>?_)
 have post:∀e,e=Exit.normal\/e=Exit.ret->(match PA P cA n.results.toList with
   |some l=>anJ cA con.pm con.rs con.qs con.m l|none=>none)=some r->bodyPost P n (fun e D=>∃us,e=.returned (eQ us)/\ajW con w D ok nw own K u r us/\ez (fun g=>(own g).isSome=true) w D) e qA D:=by
  intro e qB z;split at z
  .rename_i l qC;obtain⟨us,qD,qa⟩:=Ti (P:=P) d qC;have qE:∀g k,qz.own g=some k->w.heap.size<=g\/(own g).isSome=true:=by
    intro g k o;rcases(d.own g k o).1 with m|m
    .exact .inl m
    .obtain⟨j,y⟩:=Q g m;exact .inr (by rw[y];rfl)
   have qb:∃qd,Ending.returned (eQ us)=.returned (eQ qd)/\ajW con w D ok nw own K u r qd/\ez (fun g=>(own g).isSome=true) w D:=by
    refine⟨us,rfl,Tl d d.nw d.rok rfl qE (fun E g k o=>?_) (fun E=>?_) qD z,?_⟩
    .rcases(d.own g k o).1 with m|m
     .exact m
     .obtain⟨qK,S⟩:=m;obtain⟨qF,qG⟩:=qu E;subst qF;subst qG;simp only[Wp,BR,MM]at S;split at S<;>cases S
    .have:∀(i:Nat) (q:List (Ty×Bool)) (x:Args q) (s:List Value),S7 w ok nw own K con.pm i q x s u->u=.pointer (some ⟨K,0,none⟩):=by
      intro i
      induction i with
      |zero =>
       intro q x s h;cases q with
       |nil=>exact h.elim
       |cons p q =>
        obtain⟨qe,_,m,_⟩:=h;rcases E with E|E<;>rw[E]at m<;>exact m.1
      |succ i qH =>
       intro q x s h;cases q with
       |nil=>exact h.elim
       |cons p q =>
        obtain⟨v,qe,_,_,m⟩:=h;exact qH q x.2 qe m
     exact this _ _ _ _ W
    .exact⟨d.below.os,d.below.tape,d.below.output,d.below.size,fun k o A=>d.below.block k o fun hfr=>A (by obtain⟨j,y⟩:=Q k hfr;rw[y];rfl)⟩
   rcases qB with rfl|rfl
   .exact bodyPost_end qa d.defers qb
   .exact bodyPost_ret qa d.defers qb
  .cases z
 cases e with
 |norm=>exact post .normal (.inl rfl) z|ret=>exact post .ret (.inr rfl) z|exit j=>cases z
def aCW {a b:Ty×Bool}{i f:CV}{g:Args [a,b]×Args []}{n:Args [b]}(h:anJ st (.own true) [a,b] [] 2 [i,f]=some g)(d:AL st [b] [f]=some n):g.1.2.1=n.1:=by
 simp only[anJ,Nat.beq,YM]at h;split at h
 .split at h
  .rename_i r c;cases h;simp only[AL]at c d;split at c
   .split at c
    .rename_i y e;split at e
     .rename_i z j;rw[j]at d;cases d;cases e;cases c;rfl
     .cases e
    .cases c
   .cases c
  .cases h
 .cases h
def aCX {b q:Ty×Bool}{c:CV}{d:Args [b]×Args [q]}{n:Args [b]}(h:anJ st (.own true) [b] [q] 2 [c]=some d)(f:AL st [b] [c]=some n):d.1.1=n.1:=by
 simp only[anJ,Nat.beq,YM]at h;split at h
 .split at h
  .split at h
   .rename_i r y e g;cases h;rw[f]at e;cases e;rfl
   .cases h
  .cases h
 .cases h
def anU {T : Tab} (qi : ∀ f con, C f = some con → rO P T f con) {f : FuncId} {o : Func} {con : Sel} (D : P.funcs[f]? = some o) (M : (o.name == "runtime.NumGoroutine") = false) (p : o.body.isNone = false) (qj : l1 con.ps con.i = some con.q)
  (H:Nat->Option Hint) (qk:∀x r,con.g x=some r->∃N,anK P C (nT.J9 N) H o con.ps con.i con.a con.b con.q x=some r):ajY P T f con:=by
 refine⟨⟨o,D,M,p⟩,qj,fun x r W w ql ok nw own g0 E u I qm=>?_⟩;obtain⟨N,O⟩:=qk x r W;obtain⟨qa,O⟩:=aR O;simp only[aD]at qa;obtain⟨⟨⟨qn,qo⟩,qp⟩,qH⟩:=qa;obtain⟨c,qb⟩:∃c,o.body=some c:=by
  cases h:o.body with
  |none=>rw[h]at p;cases p|some c=>exact⟨c,rfl⟩
 have qq:iu o=c:=by simp[iu,qb]
 rw[qq]at O;obtain⟨L,B,qt,qu,qv,hrel,qw,qI⟩:=Y5 I con.i con.ps x E qp qm;have hlen:E.length=con.ps.length:=by rw[<-aru (pm:=(.own true)) con.i con.ps x (fV qo)];exact hrel.len.symm
 have qd:∀g,(∃k,(Wp ok nw own L B).own g=some k)->∃m,own g=some m:=by
  rintro g ⟨k,q⟩;simp only[Wp]at q;cases qx:own g with
  |none=>rw[qx]at q;cases q|some m=>exact⟨m,rfl⟩
 have qy:∀g,(∃k,(Wp ok nw own L B).own g=some k)->nw g:=by intro g W;obtain⟨m,y⟩:=qd g W;exact(I.bd g m y).1
 let R:eA:={w:=w,ok:=ok,nw:=nw,fr:=fun g=>∃k,(Wp ok nw own L B).own g=some k,hnw:=I.kE,pv:=u,hfr:=qy}
 have X:∀g,R.fr g->∃m,own g=some m:=qd;have qz:Inv R (Wp ok nw own L B) (adi o.ntmps (.own true) con.i con.ps x) {tmps:=E.toArray++Array.replicate (o.ntmps-E.toArray.size) undef,defers:=[]} w:=by unfold adi;rw[qu,qv];refine apC (R:=R) I rfl rfl rfl rfl (fun g k q=>Exists.intro k q) qt rfl ?_ qw (fun t v qA=>awo hrel qA);have:=Ep qn;simp[hlen];omega
 refine calls_of_wp D qb (pG (w0:=R) (fun f con D=>(qi f con D).at ql fun b p=>by obtain⟨m,y⟩:=X b p;exact(I.bd b m y).2.2) H c (qz.av3 (apf H)) O fun e qB cA qC F i d=>?_)
 have post:∀e,e=Exit.normal\/e=Exit.ret->av2 P o con.a con.b con.q Ex.norm cA=some r->bodyPost P o (fun e F=>∃us,e=.returned (eQ us)/\aCO con w F ok nw own g0 u r us/\ez (fun g=>(own g).isSome=true) w F) e qC F:=by
  intro e qD d;simp only[av2]at d;split at d
  .rename_i qK qE qF;obtain⟨us,Q,qe⟩:=Ti (P:=P) i qF;obtain⟨z,s,rfl⟩:∃z s,us=[z,s]:=by
    match us,Q with
    |[z,s],_=>exact⟨z,s,rfl⟩|[],h=>exact h.elim|[_],h=>exact h.2.elim|_::_::_::_,h=>exact h.2.2.elim
   have qf:∀g k,qB.own g=some k->w.heap.size<=g\/(own g).isSome=true:=by
    intro g k q;rcases(i.own g k q).1 with Y|Y
    .exact .inl Y
    .obtain⟨m,y⟩:=X g Y;exact .inr (by rw[y];rfl)
   have qg:∃qh,Ending.returned (eQ [z,s])=.returned (eQ qh)/\aCO con w F ok nw own g0 u r qh/\ez (fun g=>(own g).isSome=true) w F:=by
    refine⟨[z,s],rfl,⟨z,s,rfl,?_⟩,?_⟩
    .split at d
     .rename_i n M;cases S:ajA con.b.1 n.1 with
      |true =>
       rw[S]at d;simp only[br]at d;split at d
       .rename_i Z K;cases d;have p:Z.1.2.1=n.1:=aCW K M;dsimp only;rw[p,S];have:=Tl (con:=aEf con) i i.nw i.rok (g0:=g0) rfl qf (fun j=>by cases j) (fun j=>by rcases j with j|j<;>cases j) Q K;rw[<-p];exact this
       .cases d
      |false =>
       rw[S]at d;simp only[br]at d;obtain⟨A,d⟩:=aR d;split at d
       .rename_i Z K;cases d;have p:Z.1.1=n.1:=aCX K M;dsimp only;rw[p,S];have:=Tl (con:=aFc con) i i.nw i.rok (g0:=g0) rfl qf (fun j=>by cases j) (fun j=>by rcases j with j|j<;>cases j) (l:=[qE]) (us:=[s]) ⟨Q.2.1,trivial⟩ K;rw[<-p];refine⟨this,fun qG=>?_⟩;unfold aDO at A;rw[qG]at A;split at A
        .rename_i l;obtain⟨E,rfl,hrel⟩:=Q.1;rw[aD]at A;exact⟨E,rfl,by rw[<-hrel.len,aI A.1],ai7 hrel (aax A.2)⟩
        .cases A
        .contradiction
       .cases d
     .cases d
    .exact⟨i.below.os,i.below.tape,i.below.output,i.below.size,fun k q D=>i.below.block k q fun hfr=>D (by obtain⟨m,y⟩:=X k hfr;rw[y];rfl)⟩
   rcases qD with rfl|rfl
   .exact bodyPost_end qe i.defers qg
   .exact bodyPost_ret qe i.defers qg
  .cases d
 cases e with
 |norm=>exact post .normal (.inl rfl) d|ret=>exact post .ret (.inr rfl) d|exit m=>cases d
end
end Go.Am
