/- No condition. -/
import Derived.Test.YtpkabclplaibaaaGreatDoorQjAmFn
set_option linter.all false
namespace Go.Am
open Go.RowKit
variable [ec]
section
variable {N:Nat} {P:Program} {C:FuncId->Option Any} {w0:dU} {w:World} {G:Gh} {st:St} {a:Act}
def UZ (ok nw:Nat->Prop)(own:Nat->Option Nat)(L:List (Nat×eC×Value))(B:Option (Nat×Nat×List AC)):Gh :=
 {nw:=nw,ok:=ok,hb:=fun _=>match B with|some (_,b,_)=>b|none=>0,hv:=fun i=>hvL L i,own:=fun g=>match own g with|none=>none|some _=>sH L B g}
def RP:Option (Nat×Nat×List AC)->List (Nat×List AC)
 |none=>[]|some (d,_,l)=>[(d,l)]
def aeI (L:List (Nat×eC×Value)):List (Nat×Option eC):=L.map fun z=>(z.1,some z.2.1)
structure aoe (w:World) (ok nw:Nat->Prop) (own:Nat->Option Nat) (L:List (Nat×eC×Value)) (B:Option (Nat×Nat×List AC)):Prop where
 row:∀z∈L,z.2.1.w=true/\0<z.2.1.t.n/\(∃rows,w.ownsRow 0 z.2.1.e z.2.1.t.n z.2.2 z.2.1.xs.length rows/\ek w (fun g=>own g=none/\(nw g\/(z.2.1.f=false/\ok g))) z.2.1.t rows z.2.1.xs)/\∀g,z.2.2.ownBlock=some g->(own g).isSome=true
 inj:∀z∈L,∀z'∈L,∀g,z.2.2.ownBlock=some g->z'.2.2.ownBlock=some g->z=z'
 uniq:∀z∈L,∀z'∈L,z.1=z'.1->z=z'
 box:∀d g l,B=some (d,g,l)->(own g).isSome=true/\L=[]/\∃cs e f t x,w.heap[g]?=some (.cells cs e (0,0))/\l=ex f t x/\Rd w (fun g=>own g=none/\(nw g\/(f=false/\ok g))) t x cs.toList
def RQ {ok nw:Nat->Prop}{own:Nat->Option Nat}{L:List (Nat×eC×Value)}{B:Option (Nat×Nat×List AC)}{f:Bool}{g:Nat}(h:own g=none/\(nw g\/(f=false/\ok g))):RO (UZ ok nw own L B) f g :=
 ⟨by simp[UZ,h.1],h.2⟩
def amp {ok nw:Nat->Prop}{own:Nat->Option Nat}{W:Nat->Prop}(X:Handed w W ok nw own){R:dU}(Y:R.hd=fun _=>none)(A:R.w=w)(cX:R.ok=ok)(hnw:R.nw=nw){L:List (Nat×eC×Value)}{B:Option (Nat×Nat×List AC)}
  (hfr:∀g k,(UZ ok nw own L B).own g=some k->R.fr g) (j:aoe w ok nw own L B) {nt:Nat} {tm:List (Nat×AV)} {sp:AV} (Z:a.defers=[]) (qa:a.tmps.size=nt)
  (qb:gh (UZ ok nw own L B) w (RP B) (aeI L) sp R.pv) (qd:∀t v,look tm t=some v->gh (UZ ok nw own L B) w (RP B) (aeI L) v (a.tmps.getD t undef)) :
  Inv R (UZ ok nw own L B) {nt:=nt,tm:=tm,bx:=RP B,bl:=aeI L,sp:=sp} a w:=by
 subst A;have qe:∀z∈L,∀g,z.2.2.ownBlock=some g->(UZ ok nw own L B).own g=some (.bl z.1):=by
  intro z p g h;have r:=(j.row z p).2.2.2 g h;obtain⟨D,E⟩:=fy.1 r;have qf:B=none:=by
   cases B with
   |none=>rfl
   |some q =>
    obtain⟨d,s,l⟩:=q;have:=(j.box d s l rfl).2.1;rw[this]at p;simp at p
  subst qf;simp only[UZ,E,sH];unfold L6;cases i:L.find? fun z=>z.2.2.ownBlock==some g with
  |none =>
   have:=agD.1 i z p;simp[h]at this
  |some y =>
   have m:=adB i;have n:=VB i;rw[<-j.inj z p y n g h (by simpa using m)];rfl
 refine⟨hnw.symm,cX.symm,dS.refl _ _,Z,qa,qb,fun g b qj Q=>(by rw[Y]at Q;cases Q),qd,fun d l o=>?_,fun id b qg=>?_,fun g k c=>?_⟩
 .cases B with
  |none=>simp[RP,look]at o
  |some q =>
   obtain⟨F,s,qh⟩:=q;simp only[RP,aq]at o;by_cases H:F=d
   .rw[an H]at o;cases o;subst H;obtain⟨m,n,cs,e,f,t,x,I,K,S⟩:=j.box F s l rfl;refine⟨cs,e,I,?_,?_⟩
    .obtain⟨D,E⟩:=fy.1 m;simp[UZ,E,sH]
    .rw[K];exact Ry (gi (fun g h=>RQ (f:=f) h) S)
   .rw[ah H]at o;simp[look]at o
 .obtain⟨v,M⟩:=Zh qg;obtain⟨m,n,⟨rows,I,K⟩,S⟩:=j.row _ M;have T:(UZ ok nw own L B).hv id=v:=Uq j.uniq M;refine⟨fun _=>⟨rows,by rw[T];exact I,fun g h=>?_,kQ (fun g h=>RQ h) K⟩,fun A=>?_,n⟩
  .rw[T]at h;exact qe _ M g h
  .rw[show b.w=true from m]at A;cases A
 .have qi:=c;unfold UZ at c;dsimp only at c;cases r:own g with
  |none=>rw[r]at c;cases c
  |some D =>
   rw[r]at c;dsimp only at c;refine⟨.inr (hfr g k qi),(X.a1 g D r).2.1,?_⟩;have rows:L6 L g=some k->ax0 (UZ ok nw own L B) (RP B) (aeI L) g k:=by
    intro u;unfold L6 at u;cases i:L.find? fun z=>z.2.2.ownBlock==some g with
    |none=>rw[i]at u;cases u
    |some y =>
     rw[i]at u;cases u;have m:=adB i;have n:=VB i;refine⟨jw n,?_⟩;rw[show(UZ ok nw own L B).hv y.1=y.2.2 from Uq j.uniq n];simpa using m
   cases B with
   |none=>have:=rows c;cases k with|bx d=>exact this|bl id=>exact this|hid=>trivial
   |some q =>
    obtain⟨F,s,qh⟩:=q;simp only[sH]at c;by_cases O:g=s
    .rw[an O]at c;cases c;exact⟨by simp[RP,aq],by simp[UZ,O]⟩
    .rw[ah O]at c;have:=rows c;cases k with|bx d=>exact this|bl id=>exact this|hid=>trivial
def avc {f:Bool}{G:Gh}{bx:List (Nat×List AC)}{bl:List (Nat×Option eC)}{p:Ty×Bool}{x:p.1.D}{v:Value}(b:p.2=true\/p.1.n=1)(h:Zf w (RO G f) p x v) :
  dG G w bx bl (match p.2 with|true=>.agg (ex f p.1 x)|false=>.c (match ex f p.1 x with|[c]=>c|_=>.none)) v:=by
 have:=BD (f:=f) (bx:=bx) (bl:=bl) (rs:=[p]) (x:=(x,())) (vs:=[v]) (by simp only[dH,aD,kl];exact⟨b.imp_right fun h=>by rw[h];rfl,trivial⟩) ⟨v,[],rfl,h,rfl⟩
 exact this.1
def XB {ok nw:Nat->Prop}{own:Nat->Option Nat}{qf:Nat->Prop}(D:Handed w qf ok nw own){g0:Nat}{u:Value}{pm:PM}:∀(i:Nat) (ps:List (Ty×Bool)) (x:Args ps) (vs:List Value),dH ps=true->AD w ok nw own g0 pm i ps x vs u ->
  ∃L B,aoe w ok nw own L B/\(exP pm i ps x).2.2.1=aeI L/\(exP pm i ps x).2.2.2=RP B/\bO (dG (UZ ok nw own L B) w (RP B) (aeI L)) (exP pm i ps x).1 vs/\dG (UZ ok nw own L B) w (RP B) (aeI L) (exP pm i ps x).2.1 u /\
   (pm=.rd->L=[]/\B=none)
 |0,[],x,vs,_,h=>h.elim|_+1,[],x,vs,_,h=>h.elim|0,p::ps,x,vs,t,h=>by
  obtain⟨M,rfl,F,O⟩:=h;simp only[dH,aD,kl]at t;have H:p.2=true\/p.1.n=1:=t.1.imp_right aH;have rest:∀L B,bO (dG (UZ ok nw own L B) w (RP B) (aeI L)) (exF false ps x.2) M:=fun L B =>
   BD t.2 (en (fun g m=>RQ ⟨D.cX g m,.inr ⟨rfl,m⟩⟩) O)
  cases pm with
  |rd =>
   have E:Zf w ok p x.1 u:=F;have r:dG (UZ ok nw own [] none) w (RP none) (aeI []) (aBX .rd p x.1).1 u:=avc (f:=false) H (by obtain⟨cs,r,I⟩:=E;exact⟨cs,gi (fun g m=>RQ (f:=false) ⟨D.cX g m,.inr ⟨rfl,m⟩⟩) r,I⟩)
   exact⟨[],none,⟨fun z j=>by simp at j,fun z j=>by simp at j,fun z j=>by simp at j,fun d g l o=>by cases o⟩,rfl,rfl,⟨r,rest [] none⟩,r,fun _=>⟨rfl,rfl⟩⟩
  |own f =>
   have E:au3 w (fun g=>own g=none/\(nw g\/(f=false/\ok g))) own p x.1 0 u:=F;obtain⟨L,y,Z⟩:=axW (id:=62500) (f:=f) E H;have Q:aoe w ok nw own L none:=by
    refine⟨fun z j=>?_,fun z j qa qb g m qg=>?_,y.uniq,fun d g l o=>by cases o⟩
    .obtain⟨r,I,q⟩:=y.rows z j;refine⟨q.wr,q.pos,?_,fun g m=>by rw[q.nO g m];rfl⟩;obtain⟨rows,K,R⟩:=q.row;exact⟨rows,K,aby (fun qh g m=>by rw[q.nf,qh,Bool.or_false];exact m) R⟩
    .obtain⟨r,_,q⟩:=y.rows z j;obtain⟨K,_,S⟩:=y.rows qa qb;have qi:=q.nO g m;have qd:=S.nO g qg;rw[qi]at qd;have:=eE qd;exact y.uniq z j qa qb (by omega)
   have hrel:∀c v,rT L c v->bf (UZ ok nw own L none) w (RP none) (aeI L) c v:=by
    intro c v A;cases c with
    |own i len =>
     cases len with
     |some l=>exact A.elim
     |none =>
      obtain⟨b,T⟩:=A;have qe:(UZ ok nw own L none).hv i=v:=Uq Q.uniq T;refine⟨jw T,?_,qe.symm⟩;rw[qe];obtain⟨_,_,⟨rows,qj,_⟩,_⟩:=Q.row _ T;rcases qj.2 with ⟨o,_⟩|⟨qm,cap,cur,o,_⟩
      .exact⟨_,_,_,o⟩
      .exact⟨_,_,_,o⟩
    |int k n=>exact A|bool b=>exact A|str s=>exact A|_=>exact A.elim
   exact⟨L,none,Q,y.q,rfl,⟨RG hrel Z,rest L none⟩,RG hrel Z,fun h=>by cases h⟩
  |box =>
   obtain⟨W,a1,cs,e,X,Y⟩:=(show u=.pointer (some ⟨g0,0,none⟩)/\(own g0).isSome=true/\∃cs e,w.heap[g0]?=some (.cells cs e (0,0))/\Rd w ok p.1 x.1 cs.toList from F);have hrel:dG (UZ ok nw own [] (some (4000000,g0,ex false p.1 x.1))) w (RP (some (4000000,g0,ex false p.1 x.1))) (aeI []) (.c (.ptr 4000000 0)) u:=⟨by simp[RP,aq],W⟩;refine⟨[],some (4000000,g0,ex false p.1 x.1),⟨fun z j=>by simp at j,fun z j=>by simp at j,fun z j=>by simp at j,fun d g l o=>?_⟩,rfl,rfl,⟨hrel,rest _ _⟩,hrel,fun h=>by cases h⟩;cases o;exact⟨a1,rfl,cs,e,false,p.1,x.1,X,rfl,gi (fun g m=>⟨D.cX g m,.inr ⟨rfl,m⟩⟩) Y⟩
  |cur =>
   obtain⟨W,a1,cs,e,X,Y⟩:=(show u=.pointer (some ⟨g0,0,none⟩)/\(own g0).isSome=true/\∃cs e,w.heap[g0]?=some (.cells cs e (0,0))/\Rd w (fun g=>own g=none/\nw g) p.1 x.1 cs.toList from F);have hrel:dG (UZ ok nw own [] (some (4000000,g0,ex true p.1 x.1))) w (RP (some (4000000,g0,ex true p.1 x.1))) (aeI []) (.c (.ptr 4000000 0)) u:=⟨by simp[RP,aq],W⟩;refine⟨[],some (4000000,g0,ex true p.1 x.1),⟨fun z j=>by simp at j,fun z j=>by simp at j,fun z j=>by simp at j,fun d g l o=>?_⟩,rfl,rfl,⟨hrel,rest _ _⟩,hrel,fun h=>by cases h⟩;cases o;exact⟨a1,rfl,cs,e,true,p.1,x.1,X,rfl,gi (fun g m=>⟨m.1,.inl m.2⟩) Y⟩
 |i+1,p::ps,x,vs,t,h=>by obtain⟨v,M,rfl,E,O⟩:=h;simp only[dH,aD,kl]at t;have H:p.2=true\/p.1.n=1:=t.1.imp_right aH;obtain⟨L,B,r,I,q,K,R,S⟩:=XB D i ps x.2 M t.2 O;refine⟨L,B,r,I,q,⟨avc (f:=false) H ?_,K⟩,R,S⟩;obtain⟨cs,qk,ql⟩:=E;exact⟨cs,gi (fun g m=>RQ (f:=false) ⟨D.cX g m,.inr ⟨rfl,m⟩⟩) qk,ql⟩
def aof {pm:PM}:∀(i:Nat) (ps:List (Ty×Bool)) (x:Args ps),i<ps.length->(exP pm i ps x).1.length=ps.length
 |0,p::ps,x,_=>by
  have:∀{f:Bool} {rs:List (Ty×Bool)} {y:Args rs},(exF f rs y).length=rs.length:=by
   intro f rs
   induction rs with
   |nil=>intro y;rfl|cons a l b=>intro y;simp[exF,b]
  simp[exP,this]
 |i+1,p::ps,x,h=>by have:=aof (pm:=pm) i ps x.2 (by simpa using h);simp[exP,this]
 |0,[],_,h=>by simp at h
 |_+1,[],_,h=>by simp at h
def mS.aqi {w:World}{okE ahc:Nat->Prop}{own bC:Nat->Option Nat}(m:∀g j,own g=some j->bC g=some j)(n:∀g,okE g->ahc g):∀{rs:List (Ty×Bool)} {x:Args rs} {j:Nat} {vs:List Value},mS w okE own rs x j vs->mS w ahc bC rs x j vs:=by
 have o:∀{t:Ty} {x:t.D} {j:Nat} {c:List Value},FrC w okE own t x j c->FrC w ahc bC t x j c:=by
  intro t
  induction t with
  |int k=>exact fun h=>h
  |bool=>exact fun h=>h
  |str=>exact fun h=>h
  |unit=>exact fun h=>h
  |pair a b p q =>
   intro x j c h;obtain⟨r,s,e,d,f⟩:=h;exact⟨r,s,e,p d,q f⟩
  |sl e t _ =>
   intro x j c h;obtain⟨v,rows,d,f,i,u,y⟩:=h;exact⟨v,rows,d,f,i,fun g z=>m g _ (u g z),kQ n y⟩
 intro rs
 induction rs with
 |nil=>exact fun h=>h
 |cons a l A =>
  intro x j vs h;obtain⟨v,B,e,⟨c,d,f⟩,i⟩:=h;exact⟨v,B,e,⟨c,o d,f⟩,A i⟩
def aht (h:Inv w0 G st a w){p:Ty×Bool}{c:List AC}{cs:Array Value}(hrel:bO (bf G w st.bx st.bl) c cs.toList)(j:uQ c=true){y:p.1.D}(k:imV st p (.agg c)=some y){ok:Nat->Prop}
  (cX:∀f e t xs,AC.ro f e t xs∈c->∀g,RO G f g->ok g):dk w ok [p] (y,()) [.agg cs]:=by
 refine⟨_,[],rfl,asT h (x:=.agg c) (u:=.agg cs) ⟨cs,rfl,hrel⟩ (fun e t o v xs i l m=>?_) k,rfl⟩;refine iS h l m (fun id len b d _=>?_) (fun f e u n d=>?_)
 .subst d;exact absurd i (abD j id len)
 .subst d;exact cX f e u n i
def aqj (l m:List CV):aN (l++m)=aN l++aN m:=by
 induction l with
 |nil=>rfl|cons c l b=>simp[aN,b]
def RR (o:Inv w0 G st a w){w1:World}{ok nw:Nat->Prop}{own:Nat->Option Nat}{g0:Nat}{u:Value}(hnw:G.nw=nw)(cX:G.ok=ok)(qa:w0.pv=u)(I:∀g k,G.own g=some k->w1.heap.size<=g\/(own g).isSome=true)
  {con:JD} (qn:con.pm=.rd->∀g k,G.own g=some k->w1.heap.size<=g) (qi:con.pm=.box\/con.pm=.cur->u=.pointer (some ⟨g0,0,none⟩)) {l:List CV} {us:List Value} (B:bO (dG G w st.bx st.bl) l us) {r:Args con.rs×Args con.qs}
  (j:akJ st con.pm con.rs con.qs con.m l=some r):Xq con w1 w ok nw own g0 u r us:=by
 obtain⟨qy,i,pm,rs,m,qz,g⟩:=con;dsimp only at *;subst hnw;subst cX;have qb:∀(bC:Nat->Option Nat),(∀g,G.own g=none->bC g=none)->∀g,RO G (m2 m) g->bC g=none/\(G.nw g\/(m2 m=false/\G.ok g)):=fun bC h g d=>⟨h g d.1,d.2⟩
 unfold akJ at j;cases pm with
 |rd =>
  dsimp only at j;split at j
  .split at j
   .rename_i qj n;split at j
    .rename_i _ b;split at j
     .rename_i c M;split at j
      .rename_i z;rw[aD]at z;split at j
       .rename_i D s;cases j;obtain⟨cs,e,K,a1,hrel⟩:=o.bx b c M;obtain⟨v,rfl⟩:∃v,us=[v]:=by
         cases us with
         |nil=>exact B.elim
         |cons v us =>
          cases us with
          |nil=>exact⟨v,rfl⟩|cons _ _=>exact B.2.elim
        have qk:v=.pointer (some ⟨G.hb b,0,none⟩):=B.1.2;have qd:=qn rfl _ _ a1;refine⟨fun g=>if g=G.hb b then some 0 else none,fun g L d=>?_,trivial,?_⟩
        .dsimp only at d;split at d
         .rename_i F;exact .inl (F▸qd)
         .cases d
        .have key:dk w (fun g=>(if g=G.hb b then some 0 else none)=(none:Option Nat)/\(G.nw g\/(qj=false/\G.ok g))) rs D [.agg cs]:=by
          match rs,D,s with
          |[p],D,s =>
           simp only[Ax]at s;split at s
           .rename_i y qo;cases s;refine aht o hrel z.2 qo fun f e t xs n g d=>⟨?_,?_⟩
            .have:g≠G.hb b:=by rintro rfl;have:=d.1;rw[a1]at this;cases this
             simp[this]
            .have:=amn _ z.1 _ n;refine d.2.imp_right fun h=>⟨?_,h.2⟩
             cases qj with
             |false=>rfl
             |true =>
              have S:=this rfl;rw[S]at h;cases h.1
           .cases s
          |[],_,s=>simp[Ax]at s
          |_::_::_,_,s =>
           simp only[Ax]at s;split at s<;>cases s
         unfold rdM at n;split at n
         .cases n;exact⟨G.hb b,cs,e,by rw[qk],qd,by simp,K,en (fun g d=>⟨d.1,d.2.elim (fun h=>h) fun h=>by cases h.1⟩) key⟩
         .cases n;exact⟨G.hb b,cs,e,by rw[qk],qd,by simp,K,en (fun g d=>⟨d.1,d.2.imp_right fun h=>h.2⟩) key⟩
         .cases n
       .cases j
      .cases j
     .cases j
    .cases j
   .cases j
  .cases j
 |own f =>
  dsimp only at j;split at j
  .rename_i n;rw[kl]at n;have A:m=2\/m=3:=n.imp aH aH;split at j
   .split at j
    .rename_i z;rw[aD]at z;split at j
     .rename_i D s;cases j;have O:=(F5 A (qb (bR G (aN l)) fun g d=>by simp[bR,d]) o (aN l) [] rs l us D B (pre:=[]) (seen:=[]) (by simp) (fun id len n=>by simp at n) (by rw[gO];exact z.1) z.2 s).1;refine⟨bR G (aN l),fun g L d=>?_,rfl,?_⟩
      .unfold bR at d;split at d
       .rename_i id hid;exact I g _ hid
       .cases d
      .rcases A with rfl|rfl<;>exact O
     .cases j
    .cases j
   .rename_i q;split at j
    .rename_i c M;split at j
     .rename_i z;simp only[aD]at z;obtain⟨⟨E,T⟩,W⟩:=z;split at j
      .rename_i D qe s Q;cases j;have qp:dG G w st.bx st.bl c u:=by have:=o.sp;rw[M,qa]at this;exact this
       rw[aqj]at E;obtain⟨O,qq,R,x,qt⟩:=F5 A (qb (bR G (aN l++aN [c])) fun g d=>by simp[bR,d]) o (aN l++aN [c]) (aN [c]) rs l us D B (pre:=[]) (seen:=[]) (by simp) (fun id len n=>by simp at n) E T s;obtain⟨ql,_⟩:=F5 A (qb (bR G (aN l++aN [c])) fun g d=>by simp[bR,d]) o (aN l++aN [c]) [] [q] [c] [u] qe ⟨qp,trivial⟩ (pre:=aN l) (seen:=qq) (by simp) (fun id len n=>x id len (by simpa using n)) (by rw[gO];exact R) W Q;rw[qt]at ql;refine⟨bR G (aN l++aN [c]),fun g L d=>?_,ql,?_⟩
       .unfold bR at d;split at d
        .rename_i id hid;exact I g _ hid
        .cases d
       .rcases A with rfl|rfl<;>exact O
      .cases j
     .cases j
    .cases j
   .cases j
  .cases j
 |box =>
  dsimp only at j;generalize qf:st.sp=qu at j;split at j
  .rename_i b q;have qg:=qf;split at j
   .rename_i c M;split at j
    .rename_i z;simp only[aD]at z;obtain⟨⟨⟨X,E⟩,T⟩,W⟩:=z;split at j
     .rename_i D qe s Q;cases j;obtain⟨cs,e,K,a1,hrel⟩:=o.bx b c M;have qh:G.hb b=g0:=by
       have R:=o.sp;rw[qg,qa,qi (.inl rfl)]at R;have x:Value.pointer (some ⟨g0,0,none⟩)=.pointer (some ⟨G.hb b,0,none⟩):=R.2;injection x with x
       injection x with x
       injection x with x
       exact x.symm
      subst qh;have H:∀g,G.own g=none->g≠G.hb b:=by rintro g d rfl;rw[a1]at d;cases d
      by_cases n:m<=1
      ·
       refine⟨fun g=>if g=G.hb b then some (nOf rs) else none,fun g L d=>?_,⟨⟨nOf rs,by simp,bu _⟩,cs,e,K,?_⟩,?_⟩
       .dsimp only at d;split at d
        .rename_i F;exact F▸I _ _ a1
        .cases d
       .refine aht o hrel X Q fun f e t xs n g d=>⟨by simp[H g d.1],d.2.imp_right fun h=>h.2⟩
       .have A:m=0\/m=1:=by omega
        have Y:∀g id,G.own g=some (.bl id)->g≠G.hb b:=by rintro g id d rfl;rw[a1]at d;cases d
        rcases A with rfl|rfl
        .exact abE o B E s (fun f g _ d=>⟨by simp[H g d.1],d.2.imp_right fun h=>h.2⟩) (fun g id d=>⟨by simp[Y g id d],.inl (o.Rx d)⟩) (.inl rfl)
        .exact abE o B E s (fun f g S d=>⟨by simp[H g d.1],d.2.elim (fun h=>h) fun h=>by rw[S (by simp)]at h;cases h.1⟩) (fun g id d=>⟨by simp[Y g id d],o.Rx d⟩) (.inr rfl)
      .have A:m=2\/m=3:=by have:=Ay W;omega
       have qv:vu st rs l=true:=by rcases A with rfl|rfl<;>exact T
       have O:=(F5 A (okE:=fun g=>G.own g=none/\(G.nw g\/(m2 m=false/\G.ok g))) (fun g d=>⟨d.1,d.2⟩) o (aN l) [] rs l us D B (pre:=[]) (seen:=[]) (by simp) (fun id len n=>by simp at n) (by rw[gO];exact E) qv s).1;have Z:∀g,G.own g=none->(if g=G.hb b then some (nOf rs) else bR G (aN l) g)=none:=by intro g d;rw[ah (H g d)];simp[bR,d]
       refine⟨fun g=>if g=G.hb b then some (nOf rs) else bR G (aN l) g,fun g L d=>?_,⟨⟨nOf rs,by simp,bu _⟩,cs,e,K,?_⟩,?_⟩
       .dsimp only at d;split at d
        .rename_i F;exact F▸I _ _ a1
        .unfold bR at d;split at d
         .rename_i id hid;exact I g _ hid
         .cases d
       .refine aht o hrel X Q fun f e t xs n g d=>⟨Z g d.1,d.2.imp_right fun h=>h.2⟩
       .have qw:=mS.aqi (bC:=fun g=>if g=G.hb b then some (nOf rs) else bR G (aN l) g) (ahc:=fun g=>(if g=G.hb b then some (nOf rs) else bR G (aN l) g)=none/\(G.nw g\/(m2 m=false/\G.ok g))) (fun g L d=>by
         have:g≠G.hb b:=by rintro rfl;simp[bR,a1]at d
         simp[this,d]) (fun g d=>⟨Z g d.1,d.2⟩) O
        rcases A with rfl|rfl<;>exact qw
     .cases j
    .cases j
   .cases j
  .cases j
 |cur =>
  dsimp only at j;generalize qf:st.sp=qu at j;split at j
  .rename_i b q;have qg:=qf;split at j
   .rename_i c M;split at j
    .rename_i z;simp only[aD]at z;obtain⟨⟨⟨⟨X,qx⟩,E⟩,T⟩,W⟩:=z;split at j
     .rename_i D qe s Q;cases j;obtain⟨cs,e,K,a1,hrel⟩:=o.bx b c M;have qh:G.hb b=g0:=by
       have R:=o.sp;rw[qg,qa,qi (.inr rfl)]at R;have x:Value.pointer (some ⟨g0,0,none⟩)=.pointer (some ⟨G.hb b,0,none⟩):=R.2;injection x with x
       injection x with x
       injection x with x
       exact x.symm
      subst qh;have H:∀g,G.own g=none->g≠G.hb b:=by rintro g d rfl;rw[a1]at d;cases d
      have qm:∀f e t xs,AC.ro f e t xs∈c->f=true:=fun f e t xs n=>Mv qx f e t xs n
      by_cases n:m<=1
      .refine⟨fun g=>if g=G.hb b then some (nOf rs) else none,fun g L d=>?_,⟨⟨nOf rs,by simp,bu _⟩,cs,e,K,?_⟩,?_⟩
       .dsimp only at d;split at d
        .rename_i F;exact F▸I _ _ a1
        .cases d
       .refine aht o hrel X Q fun f e t xs n g d=>⟨by simp[H g d.1],d.2.elim (fun h=>h) fun h=>by rw[qm f e t xs n]at h;cases h.1⟩
       .have A:m=0\/m=1:=by omega
        have Y:∀g id,G.own g=some (.bl id)->g≠G.hb b:=by rintro g id d rfl;rw[a1]at d;cases d
        rcases A with rfl|rfl
        .exact abE o B E s (fun f g _ d=>⟨by simp[H g d.1],d.2.imp_right fun h=>h.2⟩) (fun g id d=>⟨by simp[Y g id d],.inl (o.Rx d)⟩) (.inl rfl)
        .exact abE o B E s (fun f g S d=>⟨by simp[H g d.1],d.2.elim (fun h=>h) fun h=>by rw[S (by simp)]at h;cases h.1⟩) (fun g id d=>⟨by simp[Y g id d],o.Rx d⟩) (.inr rfl)
      .have A:m=2:=by have:=Ay W;omega
       subst A;have O:=(F5 (.inl rfl) (okE:=fun g=>G.own g=none/\(G.nw g\/(m2 2=false/\G.ok g))) (fun g d=>⟨d.1,d.2⟩) o (aN l) [] rs l us D B (pre:=[]) (seen:=[]) (by simp) (fun id len n=>by simp at n) (by rw[gO];exact E) T s).1;have Z:∀g,G.own g=none->(if g=G.hb b then some (nOf rs) else bR G (aN l) g)=none:=by intro g d;rw[ah (H g d)];simp[bR,d]
       refine⟨fun g=>if g=G.hb b then some (nOf rs) else bR G (aN l) g,fun g L d=>?_,⟨⟨nOf rs,by simp,bu _⟩,cs,e,K,?_⟩,?_⟩
       .dsimp only at d;split at d
        .rename_i F;exact F▸I _ _ a1
        .unfold bR at d;split at d
         .rename_i id hid;exact I g _ hid
         .cases d
       .refine aht o hrel X Q fun f e t xs n g d=>⟨Z g d.1,d.2.elim (fun h=>h) fun h=>by rw[qm f e t xs n]at h;cases h.1⟩
       .exact mS.aqi (bC:=fun g=>if g=G.hb b then some (nOf rs) else bR G (aN l) g) (ahc:=fun g=>(if g=G.hb b then some (nOf rs) else bR G (aN l) g)=none/\(G.nw g\/(m2 2=false/\G.ok g))) (fun g L d=>by
         have:g≠G.hb b:=by rintro rfl;simp[bR,a1]at d
         simp[this,d]) (fun g d=>⟨Z g d.1,d.2⟩) O
     .cases j
    .cases j
   .cases j
  .cases j
def KQ (w:World)(a:Ty)(g:Nat):Prop:=ec.n<=g->∃e cur b,w.heap[g]?=some (.cells cur e b)/\JF e a=true
def avd {ok:Nat->Prop}{a:Ty}:∀{t:Ty} {x:t.D} {cs:List Value},(∀e,JF e t=true->JF e a=true)->Rd w ok t x cs->Rd w (fun g=>ok g/\KQ w a g) t x cs
 |.int _,_,_,_,h=>h|.bool,_,_,_,h=>h|.str,_,_,_,h=>h|.unit,_,_,_,h=>h|.pair b c,_,_,d,h=>by obtain⟨k,l,rfl,m,i⟩:=h;exact⟨k,l,rfl,avd (fun e f=>d e (by simp[JF,f])) m,avd (fun e f=>d e (by simp[JF,f])) i⟩
 |.sl e t,xs,cs,d,h=>by
  obtain⟨A,cap,rfl,n,o,h⟩:=h;refine⟨A,cap,rfl,n,o,fun p=>?_⟩;obtain⟨b,q,rfl,hlt,r,j,s⟩:=h p;refine⟨b,q,rfl,hlt,⟨r,fun u=>?_⟩,j,fun v x y=>?_⟩
  .obtain⟨_,cur,z,i,_⟩:=j (.inl u);exact⟨e,cur,z,i,d e (by simp[JF])⟩
  .obtain⟨c,B,D⟩:=s v x y;exact⟨c,avd (fun e f=>d e (by simp[JF,f])) B,D⟩
def nwQ (w:World)(nw:Nat->Prop)(own:Nat->Option Nat)(g0:Nat)(a:Ty)(g:Nat):Prop:=w.heap.size<=g\/g=g0\/(own g=none/\nw g/\KQ w a g)
def aog (own:Nat->Option Nat)(g0 g:Nat):Option Nat:=if g=g0 then own g else none
def amq {own:Nat->Option Nat}{g0 g:Nat}(h:own g=none):aog own g0 g=none:=by
 unfold aog;split
 .exact h
 .rfl
def aqk {ok nw:Nat->Prop}{own:Nat->Option Nat}{g0:Nat}{u:Value}{a:Ty×Bool}:∀(i:Nat) (ps:List (Ty×Bool)) (x:Args ps) (vs:List Value),kb ps i=some a->AD w ok nw own g0 .cur i ps x vs u->AD w ok (nwQ w nw own g0 a.1) (aog own g0) g0 .cur i ps x vs u
 |0,[],_,_,h,_=>by cases h
 |_+1,[],_,_,h,_=>by cases h
 |0,p::ps,x,vs,h,d=>by cases h;obtain⟨b,e,⟨f,j,cs,k,l,m⟩,n⟩:=d;refine⟨b,e,⟨f,by simp[aog,j],cs,k,l,?_⟩,n⟩;exact gi (fun g c=>⟨amq c.1.1,.inr (.inr ⟨c.1.1,c.1.2,c.2⟩)⟩) (avd (fun _ h=>h) m)
 |i+1,p::ps,x,vs,h,d=>by obtain⟨v,b,e,f,j⟩:=d;exact⟨v,b,e,f,aqk i ps x.2 b h j⟩
def abF {ok nw:Nat->Prop}{own:Nat->Option Nat}{g0:Nat}{u:Value}:∀(i:Nat) (ps:List (Ty×Bool)) (x:Args ps) (vs:List Value),AD w ok nw own g0 .cur i ps x vs u->(own g0).isSome=true/\u=.pointer (some ⟨g0,0,none⟩)
 |0,[],_,_,h=>h.elim|_+1,[],_,_,h=>h.elim|0,p::ps,x,vs,b=>by obtain⟨d,e,⟨f,c,_⟩,g⟩:=b;exact⟨c,f⟩
 |i+1,p::ps,x,vs,b=>by obtain⟨v,d,e,f,c⟩:=b;exact abF i ps x.2 d c
def ave:∀(i:Nat) (ps:List (Ty×Bool)) (x:Args ps),i<ps.length->(exP .cur i ps x).2.1=.c (.ptr 4000000 0)
 |0,p::ps,x,_=>rfl|i+1,p::ps,x,h=>ave i ps x.2 (by simpa using h)
 |0,[],_,h=>by simp at h
 |_+1,[],_,h=>by simp at h
def awv {con:JD}(o:con.pm=.cur){w':World}{ok nw:Nat->Prop}{own:Nat->Option Nat}{g0:Nat}{u:Value}{a:Ty}{r:Args con.rs×Args con.qs}{us:List Value}(f:∀g,nwQ w nw own g0 a g->nw g)
  (h:Xq con w w' ok (nwQ w nw own g0 a) (aog own g0) g0 u r us):Xq con w w' ok nw own g0 u r us:=by
 obtain⟨bC,p,n,d⟩:=h;refine⟨bC,fun g q c=>(p g q c).imp_right fun h=>?_,?_,?_⟩
 .unfold aog at h;split at h
  .exact h
  .cases h
 .rw[o]at n ⊢;obtain⟨s,cs,e,t,v⟩:=n;exact⟨s,cs,e,t,en (fun g c=>⟨c.1,f g c.2⟩) v⟩
 .revert d
  split
  .exact fun d=>en (fun g c=>⟨c.1,c.2.imp_left (f g)⟩) d
  .exact fun d=>en (fun g c=>⟨c.1,f g c.2⟩) d
  .rintro⟨b,cs,e,i,j,k,l,m⟩;exact⟨b,cs,e,i,j,k,l,en (fun g c=>⟨c.1,f g c.2⟩) m⟩
  .rintro⟨b,cs,e,i,j,k,l,m⟩;exact⟨b,cs,e,i,j,k,l,en (fun g c=>⟨c.1,c.2.imp_left (f g)⟩) m⟩
  .exact fun d=>mS.ax1 (fun g c=>⟨c.1,c.2.imp_left (f g)⟩) d
def ayg {l:List Nat}(h:az9 l=true):l=[]:=by
 cases l with
 |nil=>rfl|cons _ _=>cases h
def aql {T:Tab}(qn:∀f con,C f=some con->EY P T f con){f:FuncId}{n:Func}{con:JD}(K:P.funcs[f]?=some n)(M:n.body.isNone=false)(H:Nat->Option Hint)
  {x:Args con.ps} {r:Args con.rs×Args con.qs} {w:World} (qo:ec.n<=w.heap.size) (qp:T.p w) {ok nw:Nat->Prop} {own:Nat->Option Nat} {g0:Nat} {vs:List Value} {u:Value}
  (F:Handed w (fun g=>¬T.bl g) ok nw own) (O:AD w ok nw own g0 con.pm con.i con.ps x vs u) (qq:Nat.ble con.ps.length n.ntmps=true) (qf:Nat.blt con.i con.ps.length=true) (qt:dH con.ps=true)
  (qg:run P C (nP.JE N) H (cr n) {(Xj n.ntmps con.pm con.i con.ps x) with rob:=agT H} (aBY P n con.pm con.rs con.qs con.m)=some r)
  (qu:∀e,LY (av6 H) e=true->con.pm=.cur/\∀b cur S,ec.n<=b->nw b->w.heap[b]?=some (.cells cur e S)->b=g0) :
  Calls P f vs.toArray w fun e A=>∃us,e=.returned (ed us)/\Xq con w A ok nw own g0 u r us/\dS (fun g=>(own g).isSome=true) w A:=by
 obtain⟨c,qh⟩:∃c,n.body=some c:=by
  cases h:n.body with
  |none=>rw[h]at M;cases M|some c=>exact⟨c,rfl⟩
 have qv:cr n=c:=by simp[cr,qh]
 rw[qv]at qg;obtain⟨L,B,qw,qx,hB,hrel,Q,qy⟩:=XB F con.i con.ps x vs qt O;have hlen:vs.length=con.ps.length:=by rw[<-aof (pm:=con.pm) con.i con.ps x (fh qf)];exact hrel.len.symm
 have W:∀g,(∃k,(UZ ok nw own L B).own g=some k)->∃j,own g=some j:=by
  rintro g ⟨k,s⟩;simp only[UZ]at s;cases X:own g with
  |none=>rw[X]at s;cases s|some j=>exact⟨j,rfl⟩
 have qz:∀g,(∃k,(UZ ok nw own L B).own g=some k)->nw g:=by intro g Y;obtain⟨j,y⟩:=W g Y;exact(F.a1 g j y).1
 let R:dU:={w:=w,ok:=ok,nw:=nw,fr:=fun g=>∃k,(UZ ok nw own L B).own g=some k,hnw:=F.ku,pv:=u,hfr:=qz,hB:=qo,hBf:=fun g Y=>(W g Y).elim fun j y=>F.hb g j y}
 have Z:∀g,R.fr g->∃j,own g=some j:=W;have qA:Inv R (UZ ok nw own L B) (Xj n.ntmps con.pm con.i con.ps x) {tmps:=vs.toArray++Array.replicate (n.ntmps-vs.toArray.size) undef,defers:=[]} w:=by unfold Xj;rw[qx,hB];refine amp (R:=R) F rfl rfl rfl rfl (fun g k s=>Exists.intro k s) qw rfl ?_ Q (fun t v qB=>ata hrel qB);have:=Ay qq;simp[hlen];omega
 refine calls_of_wp K qh (pN (w0:=R) (fun f con K=>(qn f con K).at qp fun b M=>by
  obtain⟨j,y⟩:=Z b M;exact(F.a1 b j y).2.2) H (fun e qa=>⟨fun _=>rfl,fun b cur S hB qC qD=>by
   obtain⟨qE,qb⟩:=qu e qa;have qb:=qb b cur S hB qC qD;subst qb;rw[qE]at O Q;obtain⟨X,qF⟩:=abF con.i con.ps x vs O;rw[ave con.i con.ps x (fh qf)]at Q;obtain⟨qi,z⟩:=Q;rw[qF]at z;injection z with z
   injection z with z
   injection z with z
   obtain⟨j,y⟩:=fy.1 X;cases qd:B with
   |none=>rw[qd]at qi;cases qi
   |some q =>
    obtain⟨d,qG,qQ⟩:=q;rw[qd]at z;have z:b=qG:=z;refine⟨.bx d,?_⟩;show(match own b with|none=>none|some _=>sH L B b)=some (Key.bx d);rw[y,qd];simp[sH,z]⟩) c (qA.asL (agT H)) qg fun e qH b9 qI A m E=>?_)
 have post:∀e,e=Exit.normal\/e=Exit.ret->(match Og P b9 n.results.toList with
   |some l=>akJ b9 con.pm con.rs con.qs con.m l|none=>none)=some r->bodyPost P n (fun e A=>∃us,e=.returned (ed us)/\Xq con w A ok nw own g0 u r us/\dS (fun g=>(own g).isSome=true) w A) e qI A:=by
  intro e qa E;split at E
  .rename_i l qK;obtain⟨us,qL,qj⟩:=RN (P:=P) m qK;have qM:∀g k,qH.own g=some k->w.heap.size<=g\/(own g).isSome=true:=by
    intro g k s;rcases(m.own g k s).1 with o|o
    .exact .inl o
    .obtain⟨j,y⟩:=Z g o;exact .inr (by rw[y];rfl)
   have qk:∃ql,Ending.returned (ed us)=.returned (ed ql)/\Xq con w A ok nw own g0 u r ql/\dS (fun g=>(own g).isSome=true) w A:=by
    refine⟨us,rfl,RR m m.nw m.Y3 rfl qM (fun I g k s=>?_) (fun I=>?_) qL E,?_⟩
    .rcases(m.own g k s).1 with o|o
     .exact o
     .obtain⟨qR,qe⟩:=o;obtain⟨qN,qO⟩:=qy I;subst qN;subst qO;simp only[UZ,sH,L6]at qe;split at qe<;>cases qe
    .have:∀(i:Nat) (D:List (Ty×Bool)) (x:Args D) (vs:List Value),AD w ok nw own g0 con.pm i D x vs u->u=.pointer (some ⟨g0,0,none⟩):=by
      intro i
      induction i with
      |zero =>
       intro D x vs h;cases D with
       |nil=>exact h.elim
       |cons p D =>
        obtain⟨qm,_,o,_⟩:=h;rcases I with I|I<;>rw[I]at o<;>exact o.1
      |succ i qP =>
       intro D x vs h;cases D with
       |nil=>exact h.elim
       |cons p D =>
        obtain⟨v,qm,_,_,o⟩:=h;exact qP D x.2 qm o
     exact this _ _ _ _ O
    .exact⟨m.below.os,m.below.tape,m.below.output,m.below.size,fun k s K=>m.below.block k s fun hfr=>K (by obtain⟨j,y⟩:=Z k hfr;rw[y];rfl)⟩
   rcases qa with rfl|rfl
   .exact bodyPost_end qj m.defers qk
   .exact bodyPost_ret qj m.defers qk
  .cases E
 cases e with
 |norm=>exact post .normal (.inl rfl) E|ret=>exact post .ret (.inr rfl) E|exit j=>cases E
def VO {T : Tab} (L : ∀ f con, C f = some con → EY P T f con) {f : FuncId} {y : Func} {con : JD} (z : P.funcs[f]? = some y) (d : (y.name == "runtime.NumGoroutine") = false) (t : y.body.isNone = false) (M : awf con)
  (H:Nat->Option Hint) (O:∀x r,con.g x=some r->∃N,auT P C (nP.JE N) H y con.ps con.i con.pm con.rs con.qs con.m x=some r):ag9 P T f con:=by
 refine⟨⟨y,z,d,t⟩,M,fun x r c w Q R ok i own j A u l n=>?_⟩;obtain⟨N,E⟩:=O x r c;obtain⟨I,E⟩:=aQ E;simp only[aD]at I;obtain⟨⟨⟨⟨S,W⟩,X⟩,qk⟩,o⟩:=I;have aDg:∀(i:Nat->Prop) (own:Nat->Option Nat),Handed w (fun g=>¬T.bl g) ok i own->AD w ok i own j con.pm con.i con.ps x A u ->
   (∀e,LY (av6 H) e=true->con.pm=.cur/\∀b cur K,ec.n<=b->i b->w.heap[b]?=some (.cells cur e K)->b=j) ->
   Calls P f A.toArray w fun e F=>∃us,e=.returned (ed us)/\Xq con w F ok i own j u r us/\dS (fun g=>(own g).isSome=true) w F:=by
  clear l n;intro i own l n Y;exact aql L z t H Q R l n S W X E Y
 unfold aBl at o;split at o
 .rename_i p B Z;rw[B]at n;obtain⟨qa,ql⟩:=abF con.i con.ps x A n;obtain⟨qb,qd⟩:=fy.1 qa;have qe:∀g,nwQ w i own j p.1 g->i g:=by
   rintro g (h|h|h)
   .exact l.ku g h
   .rw[h];exact(l.a1 j qb qd).1
   .exact h.2.1
  have D:∀{g:Nat} {m:Nat},aog own j g=some m->g=j/\own g=some m:=by
   intro g m c;unfold aog at c;split at c
   .exact⟨by assumption,c⟩
   .cases c
  refine Calls.mono (aDg (nwQ w i own j p.1) (aog own j) ⟨fun g c=>.inl c,fun g m c=>⟨.inr (.inl (D c).1),(l.a1 g m (D c).2).2⟩,fun g c=>amq (l.cX g c),fun g m c=>l.hb g m (D c).2⟩ (by rw[B];exact aqk con.i con.ps x A Z n) (fun e q=>⟨B,fun b cur K qf d t=>?_⟩)) fun e F q=>?_
  .rcases d with d|d|⟨_,_,d⟩
   .exact absurd (rG.1 t).1 (Nat.not_lt.2 d)
   .exact d
   .obtain⟨qm,qn,qo,s,qg⟩:=d qf;rw[t]at s;injection s with s
    injection s with _ s _
    rw[fL]at o;have:=o e (Mz.1 q);rw[s,qg]at this;cases this
  .obtain⟨us,rfl,qh,v⟩:=q;exact⟨us,rfl,awv B qe qh,⟨v.os,v.tape,v.output,v.size,fun k qi z=>v.block k qi fun h=>z (by obtain⟨m,qj⟩:=fy.1 h;rw[(D qj).2];rfl)⟩⟩
 .refine aDg i own l n fun e q=>?_
  unfold az9 at o;split at o
  .rename_i d;rw[d]at q;cases q
  .cases o
def aAp {a b:Ty×Bool}{i f:CV}{g:Args [a,b]×Args []}{n:Args [b]}(h:akJ st (.own true) [a,b] [] 2 [i,f]=some g)(d:Ax st [b] [f]=some n):g.1.2.1=n.1:=by
 simp only[akJ,Nat.beq,Xg]at h;split at h
 .split at h
  .rename_i r c;cases h;simp only[Ax]at c d;split at c
   .split at c
    .rename_i y e;split at e
     .rename_i z j;rw[j]at d;cases d;cases e;cases c;rfl
     .cases e
    .cases c
   .cases c
  .cases h
 .cases h
def aAq {b q:Ty×Bool}{c:CV}{d:Args [b]×Args [q]}{n:Args [b]}(h:akJ st (.own true) [b] [q] 2 [c]=some d)(f:Ax st [b] [c]=some n):d.1.1=n.1:=by
 simp only[akJ,Nat.beq,Xg]at h;split at h
 .split at h
  .split at h
   .rename_i r y e g;cases h;rw[f]at e;cases e;rfl
   .cases h
  .cases h
 .cases h
def akU {T : Tab} (qj : ∀ f con, C f = some con → EY P T f con) {f : FuncId} {o : Func} {con : Sel} (D : P.funcs[f]? = some o) (O : (o.name == "runtime.NumGoroutine") = false) (p : o.body.isNone = false) (qk : kb con.ps con.i = some con.q)
  (H:Nat->Option Hint) (ql:∀x r,con.g x=some r->∃N,akK P C (nP.JE N) H o con.ps con.i con.a con.b con.q x=some r):aha P T f con:=by
 refine⟨⟨o,D,O,p⟩,qk,fun x r K w qm qn ok nw own g0 E u F qo=>?_⟩;obtain⟨N,Q⟩:=ql x r K;obtain⟨qd,Q⟩:=aQ Q;simp only[aD]at qd;obtain⟨⟨⟨⟨qp,qq⟩,qt⟩,qI⟩,qu⟩:=qd;obtain⟨c,qe⟩:∃c,o.body=some c:=by
  cases h:o.body with
  |none=>rw[h]at p;cases p|some c=>exact⟨c,rfl⟩
 have qv:cr o=c:=by simp[cr,qe]
 rw[qv]at Q;obtain⟨L,B,qw,qx,hB,hrel,qy,qK⟩:=XB F con.i con.ps x E qt qo;have hlen:E.length=con.ps.length:=by rw[<-aof (pm:=(.own true)) con.i con.ps x (fh qq)];exact hrel.len.symm
 have X:∀g,(∃k,(UZ ok nw own L B).own g=some k)->∃j,own g=some j:=by
  rintro g ⟨k,q⟩;simp only[UZ]at q;cases qz:own g with
  |none=>rw[qz]at q;cases q|some j=>exact⟨j,rfl⟩
 have qA:∀g,(∃k,(UZ ok nw own L B).own g=some k)->nw g:=by intro g K;obtain⟨j,s⟩:=X g K;exact(F.a1 g j s).1
 let R:dU:={w:=w,ok:=ok,nw:=nw,fr:=fun g=>∃k,(UZ ok nw own L B).own g=some k,hnw:=F.ku,pv:=u,hfr:=qA,hB:=qm,hBf:=fun g K=>(X g K).elim fun j s=>F.hb g j s}
 have Y:∀g,R.fr g->∃j,own g=some j:=X;have qB:Inv R (UZ ok nw own L B) (Xj o.ntmps (.own true) con.i con.ps x) {tmps:=E.toArray++Array.replicate (o.ntmps-E.toArray.size) undef,defers:=[]} w:=by unfold Xj;rw[qx,hB];refine amp (R:=R) F rfl rfl rfl rfl (fun g k q=>Exists.intro k q) qw rfl ?_ qy (fun t v qC=>ata hrel qC);have:=Ay qp;simp[hlen];omega
 refine calls_of_wp D qe (pN (w0:=R) (fun f con D=>(qj f con D).at qn fun b p=>by obtain⟨j,s⟩:=Y b p;exact(F.a1 b j s).2.2) H (fun e Z=>absurd Z (by rw[ayg qu];exact fun h=>by cases h)) c (qB.asL (agT H)) Q fun e qD b9 qE I i d=>?_)
 have post:∀e,e=Exit.normal\/e=Exit.ret->asK P o con.a con.b con.q Ex.norm b9=some r->bodyPost P o (fun e I=>∃us,e=.returned (ed us)/\aAg con w I ok nw own g0 u r us/\dS (fun g=>(own g).isSome=true) w I) e qE I:=by
  intro e Z d;simp only[asK]at d;split at d
  .rename_i qL qF qG;obtain⟨us,S,qf⟩:=RN (P:=P) i qG;obtain⟨z,y,rfl⟩:∃z y,us=[z,y]:=by
    match us,S with
    |[z,y],_=>exact⟨z,y,rfl⟩|[],h=>exact h.elim|[_],h=>exact h.2.elim|_::_::_::_,h=>exact h.2.2.elim
   have qg:∀g k,qD.own g=some k->w.heap.size<=g\/(own g).isSome=true:=by
    intro g k q;rcases(i.own g k q).1 with qa|qa
    .exact .inl qa
    .obtain⟨j,s⟩:=Y g qa;exact .inr (by rw[s];rfl)
   have qh:∃qi,Ending.returned (ed [z,y])=.returned (ed qi)/\aAg con w I ok nw own g0 u r qi/\dS (fun g=>(own g).isSome=true) w I:=by
    refine⟨[z,y],rfl,⟨z,y,rfl,?_⟩,?_⟩
    .split at d
     .rename_i n O;cases W:agL con.b.1 n.1 with
      |true =>
       rw[W]at d;simp only[br]at d;split at d
       .rename_i qb M;cases d;have p:qb.1.2.1=n.1:=aAp M O;dsimp only;rw[p,W];have:=RR (con:=aB1 con) i i.nw i.Y3 (g0:=g0) rfl qg (fun m=>by cases m) (fun m=>by rcases m with m|m<;>cases m) S M;rw[<-p];exact this
       .cases d
      |false =>
       rw[W]at d;simp only[br]at d;obtain⟨A,d⟩:=aQ d;split at d
       .rename_i qb M;cases d;have p:qb.1.1=n.1:=aAq M O;dsimp only;rw[p,W];have:=RR (con:=aC3 con) i i.nw i.Y3 (g0:=g0) rfl qg (fun m=>by cases m) (fun m=>by rcases m with m|m<;>cases m) (l:=[qF]) (us:=[y]) ⟨S.2.1,trivial⟩ M;rw[<-p];refine⟨this,fun qH=>?_⟩;unfold aBk at A;rw[qH]at A;split at A
        .rename_i l;obtain⟨E,rfl,hrel⟩:=S.1;rw[aD]at A;exact⟨E,rfl,by rw[<-hrel.len,aH A.1],agf hrel (Y9 A.2)⟩
        .cases A
        .contradiction
       .cases d
     .cases d
    .exact⟨i.below.os,i.below.tape,i.below.output,i.below.size,fun k q D=>i.below.block k q fun hfr=>D (by obtain⟨j,s⟩:=Y k hfr;rw[s];rfl)⟩
   rcases Z with rfl|rfl
   .exact bodyPost_end qf i.defers qh
   .exact bodyPost_ret qf i.defers qh
  .cases d
 cases e with
 |norm=>exact post .normal (.inl rfl) d|ret=>exact post .ret (.inr rfl) d|exit j=>cases d
end
end Go.Am
