/- No condition. -/
import Derived.Test.YtpkabclplaibaaaGreatDoorQwAmFn
set_option linter.all false
namespace Go.Am
open Go.RowKit
variable [ei]
section
variable {N:Nat} {P:Program} {C:FuncId->Option Any} {w0:dY} {w:World} {G:Gh} {st:St} {a:Act}
def Xk (ok nw:Nat->Prop)(own:Nat->Option Nat)(L:List (Nat×eF×Value))(B:Option (Nat×Nat×List AC)):Gh :=
 {nw:=nw,ok:=ok,hb:=fun _=>match B with|some (_,b,_)=>b|none=>0,hv:=fun i=>hvL L i,own:=fun g=>match own g with|none=>none|some _=>tH L B g}
def TY:Option (Nat×Nat×List AC)->List (Nat×List AC)
 |none=>[]|some (d,_,l)=>[(d,l)]
def ahr (L:List (Nat×eF×Value)):List (Nat×Option eF):=L.map fun z=>(z.1,some z.2.1)
structure aru (w:World) (ok nw:Nat->Prop) (own:Nat->Option Nat) (L:List (Nat×eF×Value)) (B:Option (Nat×Nat×List AC)):Prop where
 row:∀z∈L,z.2.1.w=true/\0<z.2.1.t.n/\(∃rows,w.ownsRow 0 z.2.1.e z.2.1.t.n z.2.2 z.2.1.xs.length rows/\et w (fun g=>own g=none/\(nw g\/(z.2.1.f=false/\ok g))) z.2.1.t rows z.2.1.xs)/\∀g,z.2.2.ownBlock=some g->(own g).isSome=true
 inj:∀z∈L,∀z'∈L,∀g,z.2.2.ownBlock=some g->z'.2.2.ownBlock=some g->z=z'
 uniq:∀z∈L,∀z'∈L,z.1=z'.1->z=z'
 box:∀d g l,B=some (d,g,l)->(own g).isSome=true/\L=[]/\∃cs e f t x,w.heap[g]?=some (.cells cs e (0,0))/\l=ex f t x/\Rd w (fun g=>own g=none/\(nw g\/(f=false/\ok g))) t x cs.toList
def TZ {ok nw:Nat->Prop}{own:Nat->Option Nat}{L:List (Nat×eF×Value)}{B:Option (Nat×Nat×List AC)}{f:Bool}{g:Nat}(h:own g=none/\(nw g\/(f=false/\ok g))):RO (Xk ok nw own L B) f g :=
 ⟨by simp[Xk,h.1],h.2⟩
def apx {ok nw:Nat->Prop}{own:Nat->Option Nat}{W:Nat->Prop}(X:Handed w W ok nw own){R:dY}(Y:R.hd=fun _=>none)(A:R.w=w)(cz:R.ok=ok)(hnw:R.nw=nw){L:List (Nat×eF×Value)}{B:Option (Nat×Nat×List AC)}
  (hfr:∀g k,(Xk ok nw own L B).own g=some k->R.fr g) (j:aru w ok nw own L B) {nt:Nat} {tm:List (Nat×AV)} {sp:AV} (Z:a.defers=[]) (qd:a.tmps.size=nt)
  (qe:gu (Xk ok nw own L B) w (TY B) (ahr L) sp R.pv) (qf:∀t v,look tm t=some v->gu (Xk ok nw own L B) w (TY B) (ahr L) v (a.tmps.getD t undef)) :
  Inv R (Xk ok nw own L B) {nt:=nt,tm:=tm,bx:=TY B,bl:=ahr L,sp:=sp} a w:=by
 subst A;have qg:∀z∈L,∀g,z.2.2.ownBlock=some g->(Xk ok nw own L B).own g=some (.bl z.1):=by
  intro z p g h;have r:=(j.row z p).2.2.2 g h;obtain⟨D,E⟩:=fC.1 r;have qh:B=none:=by
   cases B with
   |none=>rfl
   |some q =>
    obtain⟨d,s,l⟩:=q;have:=(j.box d s l rfl).2.1;rw[this]at p;simp at p
  subst qh;simp only[Xk,E,tH];unfold NR;cases i:L.find? fun z=>z.2.2.ownBlock==some g with
  |none =>
   have:=ajx.1 i z p;simp[h]at this
  |some y =>
   have m:=age i;have n:=XP i;rw[<-j.inj z p y n g h (by simpa using m)];rfl
 refine⟨hnw.symm,cz.symm,dX.refl _ _,Z,qd,qe,fun g b ql Q=>(by rw[Y]at Q;cases Q),qf,fun d l o=>?_,fun id b qi=>?_,fun g k c=>?_⟩
 .cases B with
  |none=>simp[TY,look]at o
  |some q =>
   obtain⟨F,s,qj⟩:=q;simp only[TY,ar]at o;by_cases H:F=d
   .rw[ak H]at o;cases o;subst H;obtain⟨m,n,cs,e,f,t,x,I,K,S⟩:=j.box F s l rfl;refine⟨cs,e,I,?_,?_⟩
    .obtain⟨D,E⟩:=fC.1 m;simp[Xk,E,tH]
    .rw[K];exact TJ (gv (fun g h=>TZ (f:=f) h) S)
   .rw[ag H]at o;simp[look]at o
 .obtain⟨v,M⟩:=abz qi;obtain⟨m,n,⟨rows,I,K⟩,S⟩:=j.row _ M;have T:(Xk ok nw own L B).hv id=v:=WH j.uniq M;refine⟨fun _=>⟨rows,by rw[T];exact I,fun g h=>?_,kY (fun g h=>TZ h) K⟩,fun A=>?_,n⟩
  .rw[T]at h;exact qg _ M g h
  .rw[show b.w=true from m]at A;cases A
 .have qk:=c;unfold Xk at c;dsimp only at c;cases r:own g with
  |none=>rw[r]at c;cases c
  |some D =>
   rw[r]at c;dsimp only at c;refine⟨.inr (hfr g k qk),(X.bf g D r).2.1,?_⟩;have rows:NR L g=some k->aBD (Xk ok nw own L B) (TY B) (ahr L) g k:=by
    intro u;unfold NR at u;cases i:L.find? fun z=>z.2.2.ownBlock==some g with
    |none=>rw[i]at u;cases u
    |some y =>
     rw[i]at u;cases u;have m:=age i;have n:=XP i;refine⟨jM n,?_⟩;rw[show(Xk ok nw own L B).hv y.1=y.2.2 from WH j.uniq n];simpa using m
   cases B with
   |none=>have:=rows c;cases k with|bx d=>exact this|bl id=>exact this|hid=>trivial
   |some q =>
    obtain⟨F,s,qj⟩:=q;simp only[tH]at c;by_cases O:g=s
    .rw[ak O]at c;cases c;exact⟨by simp[TY,ar],by simp[Xk,O]⟩
    .rw[ag O]at c;have:=rows c;cases k with|bx d=>exact this|bl id=>exact this|hid=>trivial
def ayI {f:Bool}{G:Gh}{bx:List (Nat×List AC)}{bl:List (Nat×Option eF)}{p:Ty×Bool}{x:p.1.D}{v:Value}(b:p.2=true\/p.1.n=1)(h:abx w (RO G f) p x v) :
  dL G w bx bl (match p.2 with|true=>.agg (ex f p.1 x)|false=>.c (match ex f p.1 x with|[c]=>c|_=>.none)) v:=by
 have:=CU (f:=f) (bx:=bx) (bl:=bl) (rs:=[p]) (x:=(x,())) (vs:=[v]) (by simp only[dM,aE,jH];exact⟨b.imp_right fun h=>by rw[h];rfl,trivial⟩) ⟨v,[],rfl,h,rfl⟩
 exact this.1
def ZR {ok nw:Nat->Prop}{own:Nat->Option Nat}{qh:Nat->Prop}(D:Handed w qh ok nw own){g0:Nat}{u:Value}{pm:PM}:∀(i:Nat) (ps:List (Ty×Bool)) (x:Args ps) (vs:List Value),dM ps=true->BV w ok nw own g0 pm i ps x vs u ->
  ∃L B,aru w ok nw own L B/\(exP pm i ps x).2.2.1=ahr L/\(exP pm i ps x).2.2.2=TY B/\bY (dL (Xk ok nw own L B) w (TY B) (ahr L)) (exP pm i ps x).1 vs/\dL (Xk ok nw own L B) w (TY B) (ahr L) (exP pm i ps x).2.1 u /\
   (pm=.rd->L=[]/\B=none)
 |0,[],x,vs,_,h=>h.elim|_+1,[],x,vs,_,h=>h.elim|0,p::ps,x,vs,t,h=>by
  obtain⟨M,rfl,F,O⟩:=h;simp only[dM,aE,jH]at t;have H:p.2=true\/p.1.n=1:=t.1.imp_right aK;have rest:∀L B,bY (dL (Xk ok nw own L B) w (TY B) (ahr L)) (exF false ps x.2) M:=fun L B =>
   CU t.2 (eu (fun g m=>TZ ⟨D.cz g m,.inr ⟨rfl,m⟩⟩) O)
  cases pm with
  |rd =>
   have E:abx w ok p x.1 u:=F;have r:dL (Xk ok nw own [] none) w (TY none) (ahr []) (aFH .rd p x.1).1 u:=ayI (f:=false) H (by obtain⟨cs,r,I⟩:=E;exact⟨cs,gv (fun g m=>TZ (f:=false) ⟨D.cz g m,.inr ⟨rfl,m⟩⟩) r,I⟩)
   exact⟨[],none,⟨fun z j=>by simp at j,fun z j=>by simp at j,fun z j=>by simp at j,fun d g l o=>by cases o⟩,rfl,rfl,⟨r,rest [] none⟩,r,fun _=>⟨rfl,rfl⟩⟩
  |own f =>
   have E:ayz w (fun g=>own g=none/\(nw g\/(f=false/\ok g))) own p x.1 0 u:=F;obtain⟨L,y,Z⟩:=aBz (id:=62500) (f:=f) E H;have Q:aru w ok nw own L none:=by
    refine⟨fun z j=>?_,fun z j qd qe g m qi=>?_,y.uniq,fun d g l o=>by cases o⟩
    .obtain⟨r,I,q⟩:=y.rows z j;refine⟨q.wr,q.pos,?_,fun g m=>by rw[q.oi g m];rfl⟩;obtain⟨rows,K,R⟩:=q.row;exact⟨rows,K,ad3 (fun qj g m=>by rw[q.nf,qj,ajC];exact m) R⟩
    .obtain⟨r,_,q⟩:=y.rows z j;obtain⟨K,_,S⟩:=y.rows qd qe;have qk:=q.oi g m;have qf:=S.oi g qi;rw[qk]at qf;have:=eh qf;exact y.uniq z j qd qe (by omega)
   have hrel:∀c v,sQ L c v->bo (Xk ok nw own L none) w (TY none) (ahr L) c v:=by
    intro c v A;cases c with
    |own i len =>
     cases len with
     |some l=>exact A.elim
     |none =>
      obtain⟨b,T⟩:=A;have qg:(Xk ok nw own L none).hv i=v:=WH Q.uniq T;refine⟨jM T,?_,qg.symm⟩;rw[qg];obtain⟨_,_,⟨rows,ql,_⟩,_⟩:=Q.row _ T;rcases ql.2 with ⟨o,_⟩|⟨qo,cap,cur,o,_⟩
      .exact⟨_,_,_,o⟩
      .exact⟨_,_,_,o⟩
    |int k n=>exact A|bool b=>exact A|str s=>exact A|_=>exact A.elim
   exact⟨L,none,Q,y.q,rfl,⟨TR hrel Z,rest L none⟩,TR hrel Z,fun h=>by cases h⟩
  |box =>
   obtain⟨W,bf,cs,e,X,Y⟩:=(show u=.pointer (some ⟨g0,0,none⟩)/\(own g0).isSome=true/\∃cs e,w.heap[g0]?=some (.cells cs e (0,0))/\Rd w ok p.1 x.1 cs.toList from F);have hrel:dL (Xk ok nw own [] (some (4000000,g0,ex false p.1 x.1))) w (TY (some (4000000,g0,ex false p.1 x.1))) (ahr []) (.c (.ptr 4000000 0)) u:=⟨by simp[TY,ar],W⟩;refine⟨[],some (4000000,g0,ex false p.1 x.1),⟨fun z j=>by simp at j,fun z j=>by simp at j,fun z j=>by simp at j,fun d g l o=>?_⟩,rfl,rfl,⟨hrel,rest _ _⟩,hrel,fun h=>by cases h⟩;cases o;exact⟨bf,rfl,cs,e,false,p.1,x.1,X,rfl,gv (fun g m=>⟨D.cz g m,.inr ⟨rfl,m⟩⟩) Y⟩
  |cur =>
   obtain⟨W,bf,cs,e,X,Y⟩:=(show u=.pointer (some ⟨g0,0,none⟩)/\(own g0).isSome=true/\∃cs e,w.heap[g0]?=some (.cells cs e (0,0))/\Rd w (fun g=>own g=none/\nw g) p.1 x.1 cs.toList from F);have hrel:dL (Xk ok nw own [] (some (4000000,g0,ex true p.1 x.1))) w (TY (some (4000000,g0,ex true p.1 x.1))) (ahr []) (.c (.ptr 4000000 0)) u:=⟨by simp[TY,ar],W⟩;refine⟨[],some (4000000,g0,ex true p.1 x.1),⟨fun z j=>by simp at j,fun z j=>by simp at j,fun z j=>by simp at j,fun d g l o=>?_⟩,rfl,rfl,⟨hrel,rest _ _⟩,hrel,fun h=>by cases h⟩;cases o;exact⟨bf,rfl,cs,e,true,p.1,x.1,X,rfl,gv (fun g m=>⟨m.1,.inl m.2⟩) Y⟩
 |i+1,p::ps,x,vs,t,h=>by obtain⟨v,M,rfl,E,O⟩:=h;simp only[dM,aE,jH]at t;have H:p.2=true\/p.1.n=1:=t.1.imp_right aK;obtain⟨L,B,r,I,q,K,R,S⟩:=ZR D i ps x.2 M t.2 O;refine⟨L,B,r,I,q,⟨ayI (f:=false) H ?_,K⟩,R,S⟩;obtain⟨cs,qm,qn⟩:=E;exact⟨cs,gv (fun g m=>TZ (f:=false) ⟨D.cz g m,.inr ⟨rfl,m⟩⟩) qm,qn⟩
def arv {pm:PM}:∀(i:Nat) (ps:List (Ty×Bool)) (x:Args ps),i<ps.length->(exP pm i ps x).1.length=ps.length
 |0,p::ps,x,_=>by
  have:∀{f:Bool} {rs:List (Ty×Bool)} {y:Args rs},(exF f rs y).length=rs.length:=by
   intro f rs
   induction rs with
   |nil=>intro y;rfl|cons a l b=>intro y;simp[exF,b]
  simp[exP,this]
 |i+1,p::ps,x,h=>by have:=arv (pm:=pm) i ps x.2 (by simpa using h);simp[exP,this]
 |0,[],_,h=>by simp at h
 |_+1,[],_,h=>by simp at h
def ny.atI {w:World}{okE aj7:Nat->Prop}{own bH:Nat->Option Nat}(m:∀g j,own g=some j->bH g=some j)(n:∀g,okE g->aj7 g):∀{rs:List (Ty×Bool)} {x:Args rs} {j:Nat} {vs:List Value},ny w okE own rs x j vs->ny w aj7 bH rs x j vs:=by
 have o:∀{t:Ty} {x:t.D} {j:Nat} {c:List Value},FrC w okE own t x j c->FrC w aj7 bH t x j c:=by
  intro t
  induction t with
  |int k=>exact fun h=>h
  |bool=>exact fun h=>h
  |str=>exact fun h=>h
  |unit=>exact fun h=>h
  |pair a b p q =>
   intro x j c h;obtain⟨r,s,e,d,f⟩:=h;exact⟨r,s,e,p d,q f⟩
  |sl e t _ =>
   intro x j c h;obtain⟨v,rows,d,f,i,u,y⟩:=h;exact⟨v,rows,d,f,i,fun g z=>m g _ (u g z),kY n y⟩
 intro rs
 induction rs with
 |nil=>exact fun h=>h
 |cons a l A =>
  intro x j vs h;obtain⟨v,B,e,⟨c,d,f⟩,i⟩:=h;exact⟨v,B,e,⟨c,o d,f⟩,A i⟩
def ako (h:Inv w0 G st a w){p:Ty×Bool}{c:List AC}{cs:Array Value}(hrel:bY (bo G w st.bx st.bl) c cs.toList)(j:vT c=true){y:p.1.D}(hi:imV st p (.agg c)=some y){ok:Nat->Prop}
  (cz:∀f e t xs,AC.ro f e t xs∈c->∀g,RO G f g->ok g):dp w ok [p] (y,()) [.agg cs]:=by
 refine⟨_,[],rfl,awr h (x:=.agg c) (u:=.agg cs) ⟨cs,rfl,hrel⟩ (fun e t n v xs i k l=>?_) hi,rfl⟩;refine jv h k l (fun id len b d _=>?_) (fun f e u m d=>?_)
 .subst d;exact absurd i (ad8 j id len)
 .subst d;exact cz f e u m i
def atJ (l m:List CV):aQ (l++m)=aQ l++aQ m:=by
 induction l with
 |nil=>rfl|cons c l b=>simp[aQ,b]
def T0 (o:Inv w0 G st a w){w1:World}{ok nw:Nat->Prop}{own:Nat->Option Nat}{g0:Nat}{u:Value}(hnw:G.nw=nw)(cz:G.ok=ok)(qd:w0.pv=u)(I:∀g k,G.own g=some k->w1.heap.size<=g\/(own g).isSome=true)
  {con:Ll} (qp:con.pm=.rd->∀g k,G.own g=some k->w1.heap.size<=g) (qk:con.pm=.box\/con.pm=.cur->u=.pointer (some ⟨g0,0,none⟩)) {l:List CV} {us:List Value} (B:bY (dL G w st.bx st.bl) l us) {r:Args con.rs×Args con.qs}
  (j:anM st con.pm con.rs con.qs con.m l=some r):ZG con w1 w ok nw own g0 u r us:=by
 obtain⟨qA,i,pm,rs,m,qB,g⟩:=con;dsimp only at *;subst hnw;subst cz;have qe:∀(bH:Nat->Option Nat),(∀g,G.own g=none->bH g=none)->∀g,RO G (m2 m) g->bH g=none/\(G.nw g\/(m2 m=false/\G.ok g)):=fun bH h g d=>⟨h g d.1,d.2⟩
 unfold anM at j;cases pm with
 |rd =>
  dsimp only at j;split at j
  .split at j
   .rename_i ql n;split at j
    .rename_i _ b;split at j
     .rename_i c M;split at j
      .rename_i z;rw[aE]at z;split at j
       .rename_i D s;cases j;obtain⟨cs,e,K,bf,hrel⟩:=o.bx b c M;obtain⟨v,rfl⟩:∃v,us=[v]:=by
         cases us with
         |nil=>exact B.elim
         |cons v us =>
          cases us with
          |nil=>exact⟨v,rfl⟩|cons _ _=>exact B.2.elim
        have qm:v=.pointer (some ⟨G.hb b,0,none⟩):=B.1.2;have qf:=qp rfl _ _ bf;refine⟨fun g=>if g=G.hb b then some 0 else none,fun g L d=>?_,trivial,?_⟩
        .dsimp only at d;split at d
         .rename_i F;exact .inl (F▸qf)
         .cases d
        .have key:dp w (fun g=>(if g=G.hb b then some 0 else none)=(none:Option Nat)/\(G.nw g\/(ql=false/\G.ok g))) rs D [.agg cs]:=by
          match rs,D,s with
          |[p],D,s =>
           simp only[BP]at s;split at s
           .rename_i y qq;cases s;refine ako o hrel z.2 qq fun f e t xs n g d=>⟨?_,?_⟩
            .have:g≠G.hb b:=by rintro rfl;have:=d.1;rw[bf]at this;cases this
             simp[this]
            .have:=apv _ z.1 _ n;refine d.2.imp_right fun h=>⟨?_,h.2⟩
             cases ql with
             |false=>rfl
             |true =>
              have S:=this rfl;rw[S]at h;cases h.1
           .cases s
          |[],_,s=>simp[BP]at s
          |_::_::_,_,s =>
           simp only[BP]at s;split at s<;>cases s
         unfold rdM at n;split at n
         .cases n;exact⟨G.hb b,cs,e,by rw[qm],qf,by simp,K,eu (fun g d=>⟨d.1,d.2.elim (fun h=>h) fun h=>by cases h.1⟩) key⟩
         .cases n;exact⟨G.hb b,cs,e,by rw[qm],qf,by simp,K,eu (fun g d=>⟨d.1,d.2.imp_right fun h=>h.2⟩) key⟩
         .cases n
       .cases j
      .cases j
     .cases j
    .cases j
   .cases j
  .cases j
 |own f =>
  dsimp only at j;split at j
  .rename_i n;rw[jH]at n;have A:m=2\/m=3:=n.imp aK aK;split at j
   .split at j
    .rename_i z;rw[aE]at z;split at j
     .rename_i D s;cases j;have O:=(Hz A (qe (b1 G (aQ l)) fun g d=>by simp[b1,d]) o (aQ l) [] rs l us D B (pre:=[]) (seen:=[]) (by simp) (fun id len n=>by simp at n) (by rw[fD];exact z.1) z.2 s).1;refine⟨b1 G (aQ l),fun g L d=>?_,rfl,?_⟩
      .unfold b1 at d;split at d
       .rename_i id hid;exact I g _ hid
       .cases d
      .rcases A with rfl|rfl<;>exact O
     .cases j
    .cases j
   .rename_i q;split at j
    .rename_i c M;split at j
     .rename_i z;simp only[aE]at z;obtain⟨⟨E,T⟩,W⟩:=z;split at j
      .rename_i D qg s Q;cases j;have qt:dL G w st.bx st.bl c u:=by have:=o.sp;rw[M,qd]at this;exact this
       rw[atJ]at E;obtain⟨O,qu,R,x,qv⟩:=Hz A (qe (b1 G (aQ l++aQ [c])) fun g d=>by simp[b1,d]) o (aQ l++aQ [c]) (aQ [c]) rs l us D B (pre:=[]) (seen:=[]) (by simp) (fun id len n=>by simp at n) E T s;obtain⟨qn,_⟩:=Hz A (qe (b1 G (aQ l++aQ [c])) fun g d=>by simp[b1,d]) o (aQ l++aQ [c]) [] [q] [c] [u] qg ⟨qt,trivial⟩ (pre:=aQ l) (seen:=qu) (by simp) (fun id len n=>x id len (by simpa using n)) (by rw[fD];exact R) W Q;rw[qv]at qn;refine⟨b1 G (aQ l++aQ [c]),fun g L d=>?_,qn,?_⟩
       .unfold b1 at d;split at d
        .rename_i id hid;exact I g _ hid
        .cases d
       .rcases A with rfl|rfl<;>exact O
      .cases j
     .cases j
    .cases j
   .cases j
  .cases j
 |box =>
  dsimp only at j;generalize qh:st.sp=qw at j;split at j
  .rename_i b q;have qi:=qh;split at j
   .rename_i c M;split at j
    .rename_i z;simp only[aE]at z;obtain⟨⟨⟨X,E⟩,T⟩,W⟩:=z;split at j
     .rename_i D qg s Q;cases j;obtain⟨cs,e,K,bf,hrel⟩:=o.bx b c M;have qj:G.hb b=g0:=by
       have R:=o.sp;rw[qi,qd,qk (.inl rfl)]at R;have x:Value.pointer (some ⟨g0,0,none⟩)=.pointer (some ⟨G.hb b,0,none⟩):=R.2;injection x with x
       injection x with x
       injection x with x
       exact x.symm
      subst qj;have H:∀g,G.own g=none->g≠G.hb b:=by rintro g d rfl;rw[bf]at d;cases d
      by_cases n:m<=1
      ·
       refine⟨fun g=>if g=G.hb b then some (nOf rs) else none,fun g L d=>?_,⟨⟨nOf rs,by simp,bh _⟩,cs,e,K,?_⟩,?_⟩
       .dsimp only at d;split at d
        .rename_i F;exact F▸I _ _ bf
        .cases d
       .refine ako o hrel X Q fun f e t xs n g d=>⟨by simp[H g d.1],d.2.imp_right fun h=>h.2⟩
       .have A:m=0\/m=1:=by omega
        have Y:∀g id,G.own g=some (.bl id)->g≠G.hb b:=by rintro g id d rfl;rw[bf]at d;cases d
        rcases A with rfl|rfl
        .exact ad9 o B E s (fun f g _ d=>⟨by simp[H g d.1],d.2.imp_right fun h=>h.2⟩) (fun g id d=>⟨by simp[Y g id d],.inl (o.TI d)⟩) (.inl rfl)
        .exact ad9 o B E s (fun f g S d=>⟨by simp[H g d.1],d.2.elim (fun h=>h) fun h=>by rw[S (by simp)]at h;cases h.1⟩) (fun g id d=>⟨by simp[Y g id d],o.TI d⟩) (.inr rfl)
      .have A:m=2\/m=3:=by have:=BQ W;omega
       have qx:wT st rs l=true:=by rcases A with rfl|rfl<;>exact T
       have O:=(Hz A (okE:=fun g=>G.own g=none/\(G.nw g\/(m2 m=false/\G.ok g))) (fun g d=>⟨d.1,d.2⟩) o (aQ l) [] rs l us D B (pre:=[]) (seen:=[]) (by simp) (fun id len n=>by simp at n) (by rw[fD];exact E) qx s).1;have Z:∀g,G.own g=none->(if g=G.hb b then some (nOf rs) else b1 G (aQ l) g)=none:=by intro g d;rw[ag (H g d)];simp[b1,d]
       refine⟨fun g=>if g=G.hb b then some (nOf rs) else b1 G (aQ l) g,fun g L d=>?_,⟨⟨nOf rs,by simp,bh _⟩,cs,e,K,?_⟩,?_⟩
       .dsimp only at d;split at d
        .rename_i F;exact F▸I _ _ bf
        .unfold b1 at d;split at d
         .rename_i id hid;exact I g _ hid
         .cases d
       .refine ako o hrel X Q fun f e t xs n g d=>⟨Z g d.1,d.2.imp_right fun h=>h.2⟩
       .have qy:=ny.atI (bH:=fun g=>if g=G.hb b then some (nOf rs) else b1 G (aQ l) g) (aj7:=fun g=>(if g=G.hb b then some (nOf rs) else b1 G (aQ l) g)=none/\(G.nw g\/(m2 m=false/\G.ok g))) (fun g L d=>by
         have:g≠G.hb b:=by rintro rfl;simp[b1,bf]at d
         simp[this,d]) (fun g d=>⟨Z g d.1,d.2⟩) O
        rcases A with rfl|rfl<;>exact qy
     .cases j
    .cases j
   .cases j
  .cases j
 |cur =>
  dsimp only at j;generalize qh:st.sp=qw at j;split at j
  .rename_i b q;have qi:=qh;split at j
   .rename_i c M;split at j
    .rename_i z;simp only[aE]at z;obtain⟨⟨⟨⟨X,qz⟩,E⟩,T⟩,W⟩:=z;split at j
     .rename_i D qg s Q;cases j;obtain⟨cs,e,K,bf,hrel⟩:=o.bx b c M;have qj:G.hb b=g0:=by
       have R:=o.sp;rw[qi,qd,qk (.inr rfl)]at R;have x:Value.pointer (some ⟨g0,0,none⟩)=.pointer (some ⟨G.hb b,0,none⟩):=R.2;injection x with x
       injection x with x
       injection x with x
       exact x.symm
      subst qj;have H:∀g,G.own g=none->g≠G.hb b:=by rintro g d rfl;rw[bf]at d;cases d
      have qo:∀f e t xs,AC.ro f e t xs∈c->f=true:=fun f e t xs n=>Oj qz f e t xs n
      by_cases n:m<=1
      .refine⟨fun g=>if g=G.hb b then some (nOf rs) else none,fun g L d=>?_,⟨⟨nOf rs,by simp,bh _⟩,cs,e,K,?_⟩,?_⟩
       .dsimp only at d;split at d
        .rename_i F;exact F▸I _ _ bf
        .cases d
       .refine ako o hrel X Q fun f e t xs n g d=>⟨by simp[H g d.1],d.2.elim (fun h=>h) fun h=>by rw[qo f e t xs n]at h;cases h.1⟩
       .have A:m=0\/m=1:=by omega
        have Y:∀g id,G.own g=some (.bl id)->g≠G.hb b:=by rintro g id d rfl;rw[bf]at d;cases d
        rcases A with rfl|rfl
        .exact ad9 o B E s (fun f g _ d=>⟨by simp[H g d.1],d.2.imp_right fun h=>h.2⟩) (fun g id d=>⟨by simp[Y g id d],.inl (o.TI d)⟩) (.inl rfl)
        .exact ad9 o B E s (fun f g S d=>⟨by simp[H g d.1],d.2.elim (fun h=>h) fun h=>by rw[S (by simp)]at h;cases h.1⟩) (fun g id d=>⟨by simp[Y g id d],o.TI d⟩) (.inr rfl)
      .have A:m=2:=by have:=BQ W;omega
       subst A;have O:=(Hz (.inl rfl) (okE:=fun g=>G.own g=none/\(G.nw g\/(m2 2=false/\G.ok g))) (fun g d=>⟨d.1,d.2⟩) o (aQ l) [] rs l us D B (pre:=[]) (seen:=[]) (by simp) (fun id len n=>by simp at n) (by rw[fD];exact E) T s).1;have Z:∀g,G.own g=none->(if g=G.hb b then some (nOf rs) else b1 G (aQ l) g)=none:=by intro g d;rw[ag (H g d)];simp[b1,d]
       refine⟨fun g=>if g=G.hb b then some (nOf rs) else b1 G (aQ l) g,fun g L d=>?_,⟨⟨nOf rs,by simp,bh _⟩,cs,e,K,?_⟩,?_⟩
       .dsimp only at d;split at d
        .rename_i F;exact F▸I _ _ bf
        .unfold b1 at d;split at d
         .rename_i id hid;exact I g _ hid
         .cases d
       .refine ako o hrel X Q fun f e t xs n g d=>⟨Z g d.1,d.2.elim (fun h=>h) fun h=>by rw[qo f e t xs n]at h;cases h.1⟩
       .exact ny.atI (bH:=fun g=>if g=G.hb b then some (nOf rs) else b1 G (aQ l) g) (aj7:=fun g=>(if g=G.hb b then some (nOf rs) else b1 G (aQ l) g)=none/\(G.nw g\/(m2 2=false/\G.ok g))) (fun g L d=>by
         have:g≠G.hb b:=by rintro rfl;simp[b1,bf]at d
         simp[this,d]) (fun g d=>⟨Z g d.1,d.2⟩) O
     .cases j
    .cases j
   .cases j
  .cases j
def KQ (w:World)(a:Ty)(g:Nat):Prop:=ei.n<=g->∃e cur b,w.heap[g]?=some (.cells cur e b)/\Ln e a=true
def ayJ {ok:Nat->Prop}{a:Ty}:∀{t:Ty} {x:t.D} {cs:List Value},(∀e,Ln e t=true->Ln e a=true)->Rd w ok t x cs->Rd w (fun g=>ok g/\KQ w a g) t x cs
 |.int _,_,_,_,h=>h|.bool,_,_,_,h=>h|.str,_,_,_,h=>h|.unit,_,_,_,h=>h|.pair b c,_,_,d,h=>by obtain⟨k,l,rfl,m,i⟩:=h;exact⟨k,l,rfl,ayJ (fun e f=>d e (by simp[Ln,f])) m,ayJ (fun e f=>d e (by simp[Ln,f])) i⟩
 |.sl e t,xs,cs,d,h=>by
  obtain⟨A,cap,rfl,n,o,h⟩:=h;refine⟨A,cap,rfl,n,o,fun p=>?_⟩;obtain⟨b,q,rfl,hlt,r,j,s⟩:=h p;refine⟨b,q,rfl,hlt,⟨r,fun u=>?_⟩,j,fun v x y=>?_⟩
  .obtain⟨_,cur,z,i,_⟩:=j (.inl u);exact⟨e,cur,z,i,d e (by simp[Ln])⟩
  .obtain⟨c,B,D⟩:=s v x y;exact⟨c,ayJ (fun e f=>d e (by simp[Ln,f])) B,D⟩
def nwQ (w:World)(nw:Nat->Prop)(own:Nat->Option Nat)(g0:Nat)(a:Ty)(g:Nat):Prop:=w.heap.size<=g\/g=g0\/(own g=none/\nw g/\KQ w a g)
def arw (own:Nat->Option Nat)(g0 g:Nat):Option Nat:=if g=g0 then own g else none
def apy {own:Nat->Option Nat}{g0 g:Nat}(h:own g=none):arw own g0 g=none:=by
 unfold arw;split
 .exact h
 .rfl
def atK {ok nw:Nat->Prop}{own:Nat->Option Nat}{g0:Nat}{u:Value}{a:Ty×Bool}:∀(i:Nat) (ps:List (Ty×Bool)) (x:Args ps) (vs:List Value),kj ps i=some a->BV w ok nw own g0 .cur i ps x vs u->BV w ok (nwQ w nw own g0 a.1) (arw own g0) g0 .cur i ps x vs u
 |0,[],_,_,h,_=>by cases h
 |_+1,[],_,_,h,_=>by cases h
 |0,p::ps,x,vs,h,d=>by cases h;obtain⟨b,e,⟨f,j,cs,k,l,m⟩,n⟩:=d;refine⟨b,e,⟨f,by simp[arw,j],cs,k,l,?_⟩,n⟩;exact gv (fun g c=>⟨apy c.1.1,.inr (.inr ⟨c.1.1,c.1.2,c.2⟩)⟩) (ayJ (fun _ h=>h) m)
 |i+1,p::ps,x,vs,h,d=>by obtain⟨v,b,e,f,j⟩:=d;exact⟨v,b,e,f,atK i ps x.2 b h j⟩
def aea {ok nw:Nat->Prop}{own:Nat->Option Nat}{g0:Nat}{u:Value}:∀(i:Nat) (ps:List (Ty×Bool)) (x:Args ps) (vs:List Value),BV w ok nw own g0 .cur i ps x vs u->(own g0).isSome=true/\u=.pointer (some ⟨g0,0,none⟩)
 |0,[],_,_,h=>h.elim|_+1,[],_,_,h=>h.elim|0,p::ps,x,vs,b=>by obtain⟨d,e,⟨f,c,_⟩,g⟩:=b;exact⟨c,f⟩
 |i+1,p::ps,x,vs,b=>by obtain⟨v,d,e,f,c⟩:=b;exact aea i ps x.2 d c
def ayK:∀(i:Nat) (ps:List (Ty×Bool)) (x:Args ps),i<ps.length->(exP .cur i ps x).2.1=.c (.ptr 4000000 0)
 |0,p::ps,x,_=>rfl|i+1,p::ps,x,h=>ayK i ps x.2 (by simpa using h)
 |0,[],_,h=>by simp at h
 |_+1,[],_,h=>by simp at h
def az6 {con:Ll}(o:con.pm=.cur){w':World}{ok nw:Nat->Prop}{own:Nat->Option Nat}{g0:Nat}{u:Value}{a:Ty}{r:Args con.rs×Args con.qs}{us:List Value}(f:∀g,nwQ w nw own g0 a g->nw g)
  (h:ZG con w w' ok (nwQ w nw own g0 a) (arw own g0) g0 u r us):ZG con w w' ok nw own g0 u r us:=by
 obtain⟨bH,p,n,d⟩:=h;refine⟨bH,fun g q c=>(p g q c).imp_right fun h=>?_,?_,?_⟩
 .unfold arw at h;split at h
  .exact h
  .cases h
 .rw[o]at n ⊢;obtain⟨s,cs,e,t,v⟩:=n;exact⟨s,cs,e,t,eu (fun g c=>⟨c.1,f g c.2⟩) v⟩
 .revert d
  split
  .exact fun d=>eu (fun g c=>⟨c.1,c.2.imp_left (f g)⟩) d
  .exact fun d=>eu (fun g c=>⟨c.1,f g c.2⟩) d
  .rintro⟨b,cs,e,i,j,k,l,m⟩;exact⟨b,cs,e,i,j,k,l,eu (fun g c=>⟨c.1,f g c.2⟩) m⟩
  .rintro⟨b,cs,e,i,j,k,l,m⟩;exact⟨b,cs,e,i,j,k,l,eu (fun g c=>⟨c.1,c.2.imp_left (f g)⟩) m⟩
  .exact fun d=>ny.aBE (fun g c=>⟨c.1,c.2.imp_left (f g)⟩) d
def aBT {l:List Nat}(h:aDN l=true):l=[]:=by
 cases l with
 |nil=>rfl|cons _ _=>cases h
def atL {T:Tab}(qo:∀f con,C f=some con->Gs P T f con){f:FuncId}{n:Func}{con:Ll}(I:P.funcs[f]?=some n)(K:n.body.isNone=false)(H:Nat->Option Hint)
  {x:Args con.ps} {r:Args con.rs×Args con.qs} {w:World} (qp:ei.n<=w.heap.size) (qq:T.p w) {ok nw:Nat->Prop} {own:Nat->Option Nat} {g0:Nat} {vs:List Value} {u:Value}
  (E:Handed w (fun g=>¬T.bl g) ok nw own) (M:BV w ok nw own g0 con.pm con.i con.ps x vs u) (qt:Nat.ble con.ps.length n.ntmps=true) (qg:Nat.blt con.i con.ps.length=true) (qu:dM con.ps=true)
  (qh:run P C (nY.Lm N) H (dE n) {(Zz n.ntmps con.pm con.i con.ps x) with rob:=ajO H} (aFI P n con.pm con.rs con.qs con.m)=some r)
  (qv:∀e,NK (azH H) e=true->con.pm=.cur/\∀b cur Q,ei.n<=b->nw b->w.heap[b]?=some (.cells cur e Q)->b=g0) :
  Calls P f vs.toArray w fun e z=>∃us,e=.returned (ej us)/\ZG con w z ok nw own g0 u r us/\dX (fun g=>(own g).isSome=true) w z:=by
 obtain⟨c,qi⟩:∃c,n.body=some c:=by
  cases h:n.body with
  |none=>rw[h]at K;cases K|some c=>exact⟨c,rfl⟩
 have qw:dE n=c:=by simp[dE,qi]
 rw[qw]at qh;obtain⟨L,B,qx,qy,hB,hrel,O,qz⟩:=ZR E con.i con.ps x vs qu M;have hlen:vs.length=con.ps.length:=by rw[<-arv (pm:=con.pm) con.i con.ps x (fs qg)];exact hrel.len.symm
 have S:∀g,(∃k,(Xk ok nw own L B).own g=some k)->∃j,own g=some j:=by
  rintro g ⟨k,o⟩;simp only[Xk]at o;cases W:own g with
  |none=>rw[W]at o;cases o|some j=>exact⟨j,rfl⟩
 have qA:∀g,(∃k,(Xk ok nw own L B).own g=some k)->nw g:=by intro g X;obtain⟨j,s⟩:=S g X;exact(E.bf g j s).1
 let R:dY:={w:=w,ok:=ok,nw:=nw,fr:=fun g=>∃k,(Xk ok nw own L B).own g=some k,hnw:=E.kC,pv:=u,hfr:=qA,hB:=qp,hBf:=fun g X=>(S g X).elim fun j s=>E.hb g j s}
 have Y:∀g,R.fr g->∃j,own g=some j:=S;have qB:Inv R (Xk ok nw own L B) (Zz n.ntmps con.pm con.i con.ps x) {tmps:=vs.toArray++Array.replicate (n.ntmps-vs.toArray.size) undef,defers:=[]} w:=by unfold Zz;rw[qy,hB];refine apx (R:=R) E rfl rfl rfl rfl (fun g k o=>Exists.intro k o) qx rfl ?_ O (fun t v qC=>awI hrel qC);have:=BQ qt;simp[hlen];omega
 refine calls_of_wp I qi (re (w0:=R) (fun f con I=>(qo f con I).at qq fun b K=>by
  obtain⟨j,s⟩:=Y b K;exact(E.bf b j s).2.2) H (fun e Z=>⟨fun _=>rfl,fun b cur Q hB qD qE=>by
   obtain⟨qF,qd⟩:=qv e Z;have qd:=qd b cur Q hB qD qE;subst qd;rw[qF]at M O;obtain⟨W,qG⟩:=aea con.i con.ps x vs M;rw[ayK con.i con.ps x (fs qg)]at O;obtain⟨qj,y⟩:=O;rw[qG]at y;injection y with y
   injection y with y
   injection y with y
   obtain⟨j,s⟩:=fC.1 W;cases qe:B with
   |none=>rw[qe]at qj;cases qj
   |some q =>
    obtain⟨d,qH,qR⟩:=q;rw[qe]at y;have y:b=qH:=y;refine⟨.bx d,?_⟩;show(match own b with|none=>none|some _=>tH L B b)=some (Key.bx d);rw[s,qe];simp[tH,y]⟩) c (qB.awj (ajO H)) qh fun e qI cp qK z m D=>?_)
 have post:∀e,e=Exit.normal\/e=Exit.ret->(match Qh P cp n.results.toList with
   |some l=>anM cp con.pm con.rs con.qs con.m l|none=>none)=some r->bodyPost P n (fun e z=>∃us,e=.returned (ej us)/\ZG con w z ok nw own g0 u r us/\dX (fun g=>(own g).isSome=true) w z) e qK z:=by
  intro e Z D;split at D
  .rename_i l qL;obtain⟨us,qM,qk⟩:=TX (P:=P) m qL;have qN:∀g k,qI.own g=some k->w.heap.size<=g\/(own g).isSome=true:=by
    intro g k o;rcases(m.own g k o).1 with h1|h1
    .exact .inl h1
    .obtain⟨j,s⟩:=Y g h1;exact .inr (by rw[s];rfl)
   have ql:∃qm,Ending.returned (ej us)=.returned (ej qm)/\ZG con w z ok nw own g0 u r qm/\dX (fun g=>(own g).isSome=true) w z:=by
    refine⟨us,rfl,T0 m m.nw m.rok rfl qN (fun F g k o=>?_) (fun F=>?_) qM D,?_⟩
    .rcases(m.own g k o).1 with h1|h1
     .exact h1
     .obtain⟨qS,qf⟩:=h1;obtain⟨qO,qP⟩:=qz F;subst qO;subst qP;simp only[Xk,tH,NR]at qf;split at qf<;>cases qf
    .have:∀(i:Nat) (A:List (Ty×Bool)) (x:Args A) (vs:List Value),BV w ok nw own g0 con.pm i A x vs u->u=.pointer (some ⟨g0,0,none⟩):=by
      intro i
      induction i with
      |zero =>
       intro A x vs h;cases A with
       |nil=>exact h.elim
       |cons p A =>
        obtain⟨qn,_,h1,_⟩:=h;rcases F with F|F<;>rw[F]at h1<;>exact h1.1
      |succ i qQ =>
       intro A x vs h;cases A with
       |nil=>exact h.elim
       |cons p A =>
        obtain⟨v,qn,_,_,h1⟩:=h;exact qQ A x.2 qn h1
     exact this _ _ _ _ M
    .exact⟨m.below.os,m.below.tape,m.below.output,m.below.size,fun k o I=>m.below.block k o fun hfr=>I (by obtain⟨j,s⟩:=Y k hfr;rw[s];rfl)⟩
   rcases Z with rfl|rfl
   .exact bodyPost_end qk m.defers ql
   .exact bodyPost_ret qk m.defers ql
  .cases D
 cases e with
 |norm=>exact post .normal (.inl rfl) D|ret=>exact post .ret (.inr rfl) D|exit j=>cases D
def XZ {T : Tab} (L : ∀ f con, C f = some con → Gs P T f con) {f : FuncId} {y : Func} {con : Ll} (z : P.funcs[f]? = some y) (d : (y.name == "runtime.NumGoroutine") = false) (t : y.body.isNone = false) (M : azQ con)
  (H:Nat->Option Hint) (O:∀x r,con.g x=some r->∃N,ayq P C (nY.Lm N) H y con.ps con.i con.pm con.rs con.qs con.m x=some r):aj4 P T f con:=by
 refine⟨⟨y,z,d,t⟩,M,fun x r c w Q R ok i own j A u l n=>?_⟩;obtain⟨N,E⟩:=O x r c;obtain⟨I,E⟩:=aT E;simp only[aE]at I;obtain⟨⟨⟨⟨S,W⟩,X⟩,qm⟩,o⟩:=I;have aHa:∀(i:Nat->Prop) (own:Nat->Option Nat),Handed w (fun g=>¬T.bl g) ok i own->BV w ok i own j con.pm con.i con.ps x A u ->
   (∀e,NK (azH H) e=true->con.pm=.cur/\∀b cur K,ei.n<=b->i b->w.heap[b]?=some (.cells cur e K)->b=j) ->
   Calls P f A.toArray w fun e F=>∃us,e=.returned (ej us)/\ZG con w F ok i own j u r us/\dX (fun g=>(own g).isSome=true) w F:=by
  clear l n;intro i own l n Y;exact atL L z t H Q R l n S W X E Y
 unfold aE7 at o;split at o
 .rename_i p B Z;rw[B]at n;obtain⟨qd,qn⟩:=aea con.i con.ps x A n;obtain⟨qe,qf⟩:=fC.1 qd;have qg:∀g,nwQ w i own j p.1 g->i g:=by
   rintro g (h|h|h)
   .exact l.kC g h
   .rw[h];exact(l.bf j qe qf).1
   .exact h.2.1
  have D:∀{g:Nat} {m:Nat},arw own j g=some m->g=j/\own g=some m:=by
   intro g m c;unfold arw at c;split at c
   .exact⟨by assumption,c⟩
   .cases c
  refine Calls.mono (aHa (nwQ w i own j p.1) (arw own j) ⟨fun g c=>.inl c,fun g m c=>⟨.inr (.inl (D c).1),(l.bf g m (D c).2).2⟩,fun g c=>apy (l.cz g c),fun g m c=>l.hb g m (D c).2⟩ (by rw[B];exact atK con.i con.ps x A Z n) (fun e q=>⟨B,fun b cur K qh d t=>?_⟩)) fun e F q=>?_
  .rcases d with d|d|⟨_,_,d⟩
   .exact absurd (sC.1 t).1 (Nat.not_lt.2 d)
   .exact d
   .obtain⟨qo,qp,qq,s,qi⟩:=d qh;rw[t]at s;injection s with s
    injection s with _ s _
    rw[dh]at o;have:=o e (On.1 q);rw[s,qi]at this;cases this
  .obtain⟨us,rfl,qj,v⟩:=q;exact⟨us,rfl,az6 B qg qj,⟨v.os,v.tape,v.output,v.size,fun k qk z=>v.block k qk fun h=>z (by obtain⟨m,ql⟩:=fC.1 h;rw[(D ql).2];rfl)⟩⟩
 .refine aHa i own l n fun e q=>?_
  unfold aDN at o;split at o
  .rename_i d;rw[d]at q;cases q
  .cases o
def aD3 {a b:Ty×Bool}{i f:CV}{g:Args [a,b]×Args []}{n:Args [b]}(h:anM st (.own true) [a,b] [] 2 [i,f]=some g)(d:BP st [b] [f]=some n):g.1.2.1=n.1:=by
 simp only[anM,Nat.beq,Tv]at h;split at h
 .split at h
  .rename_i r c;cases h;simp only[BP]at c d;split at c
   .split at c
    .rename_i y e;split at e
     .rename_i z j;rw[j]at d;cases d;cases e;cases c;rfl
     .cases e
    .cases c
   .cases c
  .cases h
 .cases h
def aD4 {b q:Ty×Bool}{c:CV}{d:Args [b]×Args [q]}{n:Args [b]}(h:anM st (.own true) [b] [q] 2 [c]=some d)(f:BP st [b] [c]=some n):d.1.1=n.1:=by
 simp only[anM,Nat.beq,Tv]at h;split at h
 .split at h
  .split at h
   .rename_i r y e g;cases h;rw[f]at e;cases e;rfl
   .cases h
  .cases h
 .cases h
def anX {T : Tab} (qk : ∀ f con, C f = some con → Gs P T f con) {f : FuncId} {o : Func} {con : Sel} (D : P.funcs[f]? = some o) (O : (o.name == "runtime.NumGoroutine") = false) (p : o.body.isNone = false) (ql : kj con.ps con.i = some con.q)
  (H:Nat->Option Hint) (qm:∀x r,con.g x=some r->∃N,anN P C (nY.Lm N) H o con.ps con.i con.a con.b con.q x=some r):aj5 P T f con:=by
 refine⟨⟨o,D,O,p⟩,ql,fun x r K w qn qo ok nw own g0 E u F qp=>?_⟩;obtain⟨N,Q⟩:=qm x r K;obtain⟨qe,Q⟩:=aT Q;simp only[aE]at qe;obtain⟨⟨⟨⟨qq,qt⟩,qu⟩,qK⟩,qv⟩:=qe;obtain⟨c,qf⟩:∃c,o.body=some c:=by
  cases h:o.body with
  |none=>rw[h]at p;cases p|some c=>exact⟨c,rfl⟩
 have qw:dE o=c:=by simp[dE,qf]
 rw[qw]at Q;obtain⟨L,B,qx,qy,hB,hrel,qz,qL⟩:=ZR F con.i con.ps x E qu qp;have hlen:E.length=con.ps.length:=by rw[<-arv (pm:=(.own true)) con.i con.ps x (fs qt)];exact hrel.len.symm
 have X:∀g,(∃k,(Xk ok nw own L B).own g=some k)->∃j,own g=some j:=by
  rintro g ⟨k,q⟩;simp only[Xk]at q;cases qA:own g with
  |none=>rw[qA]at q;cases q|some j=>exact⟨j,rfl⟩
 have qB:∀g,(∃k,(Xk ok nw own L B).own g=some k)->nw g:=by intro g K;obtain⟨j,s⟩:=X g K;exact(F.bf g j s).1
 let R:dY:={w:=w,ok:=ok,nw:=nw,fr:=fun g=>∃k,(Xk ok nw own L B).own g=some k,hnw:=F.kC,pv:=u,hfr:=qB,hB:=qn,hBf:=fun g K=>(X g K).elim fun j s=>F.hb g j s}
 have Y:∀g,R.fr g->∃j,own g=some j:=X;have qC:Inv R (Xk ok nw own L B) (Zz o.ntmps (.own true) con.i con.ps x) {tmps:=E.toArray++Array.replicate (o.ntmps-E.toArray.size) undef,defers:=[]} w:=by unfold Zz;rw[qy,hB];refine apx (R:=R) F rfl rfl rfl rfl (fun g k q=>Exists.intro k q) qx rfl ?_ qz (fun t v qD=>awI hrel qD);have:=BQ qq;simp[hlen];omega
 refine calls_of_wp D qf (re (w0:=R) (fun f con D=>(qk f con D).at qo fun b p=>by obtain⟨j,s⟩:=Y b p;exact(F.bf b j s).2.2) H (fun e Z=>absurd Z (by rw[aBT qv];exact fun h=>by cases h)) c (qC.awj (ajO H)) Q fun e qE cp qF I i d=>?_)
 have post:∀e,e=Exit.normal\/e=Exit.ret->awi P o con.a con.b con.q Ex.norm cp=some r->bodyPost P o (fun e I=>∃us,e=.returned (ej us)/\aDU con w I ok nw own g0 u r us/\dX (fun g=>(own g).isSome=true) w I) e qF I:=by
  intro e Z d;simp only[awi]at d;split at d
  .rename_i qM qG qH;obtain⟨us,S,qg⟩:=TX (P:=P) i qH;obtain⟨z,y,rfl⟩:∃z y,us=[z,y]:=by
    match us,S with
    |[z,y],_=>exact⟨z,y,rfl⟩|[],h=>exact h.elim|[_],h=>exact h.2.elim|_::_::_::_,h=>exact h.2.2.elim
   have qh:∀g k,qE.own g=some k->w.heap.size<=g\/(own g).isSome=true:=by
    intro g k q;rcases(i.own g k q).1 with h1|h1
    .exact .inl h1
    .obtain⟨j,s⟩:=Y g h1;exact .inr (by rw[s];rfl)
   have qi:∃qj,Ending.returned (ej [z,y])=.returned (ej qj)/\aDU con w I ok nw own g0 u r qj/\dX (fun g=>(own g).isSome=true) w I:=by
    refine⟨[z,y],rfl,⟨z,y,rfl,?_⟩,?_⟩
    .split at d
     .rename_i n O;cases W:ajG con.b.1 n.1 with
      |true =>
       rw[W]at d;simp only[br]at d;split at d
       .rename_i qd M;cases d;have p:qd.1.2.1=n.1:=aD3 M O;dsimp only;rw[p,W];have:=T0 (con:=aFL con) i i.nw i.rok (g0:=g0) rfl qh (fun m=>by cases m) (fun m=>by rcases m with m|m<;>cases m) S M;rw[<-p];exact this
       .cases d
      |false =>
       rw[W]at d;simp only[br]at d;obtain⟨A,d⟩:=aT d;split at d
       .rename_i qd M;cases d;have p:qd.1.1=n.1:=aD4 M O;dsimp only;rw[p,W];have:=T0 (con:=aGX con) i i.nw i.rok (g0:=g0) rfl qh (fun m=>by cases m) (fun m=>by rcases m with m|m<;>cases m) (l:=[qG]) (us:=[y]) ⟨S.2.1,trivial⟩ M;rw[<-p];refine⟨this,fun qI=>?_⟩;unfold aE6 at A;rw[qI]at A;split at A
        .rename_i l;obtain⟨E,rfl,hrel⟩:=S.1;rw[aE]at A;exact⟨E,rfl,by rw[<-hrel.len,aK A.1],ajb hrel (abq A.2)⟩
        .cases A
        .contradiction
       .cases d
     .cases d
    .exact⟨i.below.os,i.below.tape,i.below.output,i.below.size,fun k q D=>i.below.block k q fun hfr=>D (by obtain⟨j,s⟩:=Y k hfr;rw[s];rfl)⟩
   rcases Z with rfl|rfl
   .exact bodyPost_end qg i.defers qi
   .exact bodyPost_ret qg i.defers qi
  .cases d
 cases e with
 |norm=>exact post .normal (.inl rfl) d|ret=>exact post .ret (.inr rfl) d|exit j=>cases d
end
end Go.Am
