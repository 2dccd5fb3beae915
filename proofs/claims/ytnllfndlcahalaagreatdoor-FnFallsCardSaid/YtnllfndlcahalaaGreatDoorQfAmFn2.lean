/- No condition. -/
import Derived.Test.YtnllfndlcahalaaGreatDoorQfAmFn
set_option linter.all false
namespace Go.Am
open Go.RowKit
section
variable {N:Nat} {P:Program} {C:FuncId->Option Any} {w0:fc} {w:World} {G:Gh} {st:St} {a:Act}
def Zf (ok nw:Nat->Prop)(own:Nat->Option Nat)(L:List (Nat×fN×Value))(B:Option (Nat×Nat×List AC)):Gh :=
 {nw:=nw,ok:=ok,hb:=fun _=>match B with|some (_,b,_)=>b|none=>0,hv:=fun i=>hvL L i,own:=fun g=>match own g with|none=>none|some _=>Dl L B g}
def VT:Option (Nat×Nat×List AC)->List (Nat×List AC)
 |none=>[]|some (d,_,l)=>[(d,l)]
def akE (L:List (Nat×fN×Value)):List (Nat×Option fN):=L.map fun z=>(z.1,some z.2.1)
structure avC (w:World) (ok nw:Nat->Prop) (own:Nat->Option Nat) (L:List (Nat×fN×Value)) (B:Option (Nat×Nat×List AC)):Prop where
 row:∀z∈L,z.2.1.w=true/\0<z.2.1.t.n/\(∃rows,w.ownsRow 0 z.2.1.e z.2.1.t.n z.2.2 z.2.1.xs.length rows/\fi w (fun g=>own g=none/\(nw g\/(z.2.1.f=false/\ok g))) z.2.1.t rows z.2.1.xs)/\∀g,z.2.2.ownBlock=some g->(own g).isSome=true
 inj:∀z∈L,∀z'∈L,∀g,z.2.2.ownBlock=some g->z'.2.2.ownBlock=some g->z=z'
 uniq:∀z∈L,∀z'∈L,z.1=z'.1->z=z'
 box:∀d g l,B=some (d,g,l)->(own g).isSome=true/\L=[]/\∃cs e f t x,w.heap[g]?=some (.cells cs e (0,0))/\l=ex f t x/\Rd w (fun g=>own g=none/\(nw g\/(f=false/\ok g))) t x cs.toList
def VU {ok nw:Nat->Prop}{own:Nat->Option Nat}{L:List (Nat×fN×Value)}{B:Option (Nat×Nat×List AC)}{f:Bool}{g:Nat}(h:own g=none/\(nw g\/(f=false/\ok g))):RO (Zf ok nw own L B) f g :=
 ⟨by simp[Zf,h.1],h.2⟩
def atu {ok nw:Nat->Prop}{own:Nat->Option Nat}{W:Nat->Prop}(X:Handed w W ok nw own){R:fc}(Y:R.hd=fun _=>none)(A:R.w=w)(df:R.ok=ok)(hnw:R.nw=nw){L:List (Nat×fN×Value)}{B:Option (Nat×Nat×List AC)}
  (hfr:∀g k,(Zf ok nw own L B).own g=some k->R.fr g) (j:avC w ok nw own L B) {nt:Nat} {tm:List (Nat×AV)} {sp:AV} (Z:a.defers=[]) (qd:a.tmps.size=nt)
  (qe:jP (Zf ok nw own L B) w (VT B) (akE L) sp R.pv) (qf:∀t v,look tm t=some v->jP (Zf ok nw own L B) w (VT B) (akE L) v (a.tmps.getD t undef)) :
  Inv R (Zf ok nw own L B) {nt:=nt,tm:=tm,bx:=VT B,bl:=akE L,sp:=sp} a w:=by
 subst A;have qg:∀z∈L,∀g,z.2.2.ownBlock=some g->(Zf ok nw own L B).own g=some (.bl z.1):=by
  intro z p g h;have r:=(j.row z p).2.2.2 g h;obtain⟨D,E⟩:=lX.1 r;have qh:B=none:=by
   cases B with
   |none=>rfl
   |some q =>
    obtain⟨d,s,l⟩:=q;have:=(j.box d s l rfl).2.1;rw[this]at p;simp at p
  subst qh;simp only[Zf,E,Dl];unfold OW;cases i:L.find? fun z=>z.2.2.ownBlock==some g with
  |none =>
   have:=am0.1 i z p;simp[h]at this
  |some y =>
   have m:=Vm i;have n:=Vg i;rw[<-j.inj z p y n g h (by simpa using m)];rfl
 refine⟨hnw.symm,df.symm,eY.refl _ _,Z,qd,qe,fun g b ql Q=>(by rw[Y]at Q;cases Q),qf,fun d l o=>?_,fun id b qi=>?_,fun g k c=>?_⟩
 .cases B with
  |none=>simp[VT,look]at o
  |some q =>
   obtain⟨F,s,qj⟩:=q;simp only[VT,au]at o;by_cases H:F=d
   .rw[ag H]at o;cases o;subst H;obtain⟨m,n,cs,e,f,t,x,I,K,S⟩:=j.box F s l rfl;refine⟨cs,e,I,?_,?_⟩
    .obtain⟨D,E⟩:=lX.1 m;simp[Zf,E,Dl]
    .rw[K];exact VA (iN (fun g h=>VU (f:=f) h) S)
   .rw[af H]at o;simp[look]at o
 .obtain⟨v,M⟩:=adM qi;obtain⟨m,n,⟨rows,I,K⟩,S⟩:=j.row _ M;have T:(Zf ok nw own L B).hv id=v:=Yz j.uniq M;refine⟨fun _=>⟨rows,by rw[T];exact I,fun g h=>?_,l0 (fun g h=>VU h) K⟩,fun A=>?_,n⟩
  .rw[T]at h;exact qg _ M g h
  .rw[show b.w=true from m]at A;cases A
 .have qk:=c;unfold Zf at c;dsimp only at c;cases r:own g with
  |none=>rw[r]at c;cases c
  |some D =>
   rw[r]at c;dsimp only at c;refine⟨.inr (hfr g k qk),(X.bp g D r).2.1,?_⟩;have rows:OW L g=some k->aGj (Zf ok nw own L B) (VT B) (akE L) g k:=by
    intro u;unfold OW at u;cases i:L.find? fun z=>z.2.2.ownBlock==some g with
    |none=>rw[i]at u;cases u
    |some y =>
     rw[i]at u;cases u;have m:=Vm i;have n:=Vg i;refine⟨kJ n,?_⟩;rw[show(Zf ok nw own L B).hv y.1=y.2.2 from Yz j.uniq n];simpa using m
   cases B with
   |none=>have:=rows c;cases k with|bx d=>exact this|bl id=>exact this|hid=>trivial
   |some q =>
    obtain⟨F,s,qj⟩:=q;simp only[Dl]at c;by_cases O:g=s
    .rw[ag O]at c;cases c;exact⟨by simp[VT,au],by simp[Zf,O]⟩
    .rw[af O]at c;have:=rows c;cases k with|bx d=>exact this|bl id=>exact this|hid=>trivial
def aDb {f:Bool}{G:Gh}{bx:List (Nat×List AC)}{bl:List (Nat×Option fN)}{p:Ty×Bool}{x:p.1.D}{v:Value}(b:p.2=true\/p.1.n=1)(h:adK w (RO G f) p x v) :
  eF G w bx bl (match p.2 with|true=>.agg (ex f p.1 x)|false=>.c (match ex f p.1 x with|[c]=>c|_=>.none)) v:=by
 have:=Dk (f:=f) (bx:=bx) (bl:=bl) (rs:=[p]) (x:=(x,())) (vs:=[v]) (by simp only[eE,aG,kj];exact⟨b.imp_right fun h=>by rw[h];rfl,trivial⟩) ⟨v,[],rfl,h,rfl⟩
 exact this.1
def abY {ok nw:Nat->Prop}{own:Nat->Option Nat}{qh:Nat->Prop}(D:Handed w qh ok nw own){g0:Nat}{u:Value}{pm:PM}:∀(i:Nat) (ps:List (Ty×Bool)) (x:Args ps) (vs:List Value),eE ps=true->VH w ok nw own g0 pm i ps x vs u ->
  ∃L B,avC w ok nw own L B/\(exP pm i ps x).2.2.1=akE L/\(exP pm i ps x).2.2.2=VT B/\ch (eF (Zf ok nw own L B) w (VT B) (akE L)) (exP pm i ps x).1 vs/\eF (Zf ok nw own L B) w (VT B) (akE L) (exP pm i ps x).2.1 u /\
   (pm=.rd->L=[]/\B=none)
 |0,[],x,vs,_,h=>h.elim|_+1,[],x,vs,_,h=>h.elim|0,p::ps,x,vs,t,h=>by
  obtain⟨M,rfl,F,O⟩:=h;simp only[eE,aG,kj]at t;have H:p.2=true\/p.1.n=1:=t.1.imp_right aO;have rest:∀L B,ch (eF (Zf ok nw own L B) w (VT B) (akE L)) (exF false ps x.2) M:=fun L B =>
   Dk t.2 (kt (fun g m=>VU ⟨D.df g m,.inr ⟨rfl,m⟩⟩) O)
  cases pm with
  |rd =>
   have E:adK w ok p x.1 u:=F;have r:eF (Zf ok nw own [] none) w (VT none) (akE []) (aJ4 .rd p x.1).1 u:=aDb (f:=false) H (by obtain⟨cs,r,I⟩:=E;exact⟨cs,iN (fun g m=>VU (f:=false) ⟨D.df g m,.inr ⟨rfl,m⟩⟩) r,I⟩)
   exact⟨[],none,⟨fun z j=>by simp at j,fun z j=>by simp at j,fun z j=>by simp at j,fun d g l o=>by cases o⟩,rfl,rfl,⟨r,rest [] none⟩,r,fun _=>⟨rfl,rfl⟩⟩
  |own f =>
   have E:aC2 w (fun g=>own g=none/\(nw g\/(f=false/\ok g))) own p x.1 0 u:=F;obtain⟨L,y,Z⟩:=aGf (id:=62500) (f:=f) E H;have Q:avC w ok nw own L none:=by
    refine⟨fun z j=>?_,fun z j qd qe g m qi=>?_,y.uniq,fun d g l o=>by cases o⟩
    .obtain⟨r,I,q⟩:=y.rows z j;refine⟨q.wr,q.pos,?_,fun g m=>by rw[q.rI g m];rfl⟩;obtain⟨rows,K,R⟩:=q.row;exact⟨rows,K,agE (fun qj g m=>by rw[q.nf,qj,am7];exact m) R⟩
    .obtain⟨r,_,q⟩:=y.rows z j;obtain⟨K,_,S⟩:=y.rows qd qe;have qk:=q.rI g m;have qf:=S.rI g qi;rw[qk]at qf;have:=eT qf;exact y.uniq z j qd qe (by omega)
   have hrel:∀c v,tw L c v->bC (Zf ok nw own L none) w (VT none) (akE L) c v:=by
    intro c v A;cases c with
    |own i len =>
     cases len with
     |some l=>exact A.elim
     |none =>
      obtain⟨b,T⟩:=A;have qg:(Zf ok nw own L none).hv i=v:=Yz Q.uniq T;refine⟨kJ T,?_,qg.symm⟩;rw[qg];obtain⟨_,_,⟨rows,ql,_⟩,_⟩:=Q.row _ T;rcases ql.2 with ⟨o,_⟩|⟨qo,cap,cur,o,_⟩
      .exact⟨_,_,_,o⟩
      .exact⟨_,_,_,o⟩
    |int k n=>exact A|bool b=>exact A|str s=>exact A|_=>exact A.elim
   exact⟨L,none,Q,y.q,rfl,⟨VM hrel Z,rest L none⟩,VM hrel Z,fun h=>by cases h⟩
  |box =>
   obtain⟨W,bp,cs,e,X,Y⟩:=(show u=.pointer (some ⟨g0,0,none⟩)/\(own g0).isSome=true/\∃cs e,w.heap[g0]?=some (.cells cs e (0,0))/\Rd w ok p.1 x.1 cs.toList from F);have hrel:eF (Zf ok nw own [] (some (4000000,g0,ex false p.1 x.1))) w (VT (some (4000000,g0,ex false p.1 x.1))) (akE []) (.c (.ptr 4000000 0)) u:=⟨by simp[VT,au],W⟩;refine⟨[],some (4000000,g0,ex false p.1 x.1),⟨fun z j=>by simp at j,fun z j=>by simp at j,fun z j=>by simp at j,fun d g l o=>?_⟩,rfl,rfl,⟨hrel,rest _ _⟩,hrel,fun h=>by cases h⟩;cases o;exact⟨bp,rfl,cs,e,false,p.1,x.1,X,rfl,iN (fun g m=>⟨D.df g m,.inr ⟨rfl,m⟩⟩) Y⟩
  |cur =>
   obtain⟨W,bp,cs,e,X,Y⟩:=(show u=.pointer (some ⟨g0,0,none⟩)/\(own g0).isSome=true/\∃cs e,w.heap[g0]?=some (.cells cs e (0,0))/\Rd w (fun g=>own g=none/\nw g) p.1 x.1 cs.toList from F);have hrel:eF (Zf ok nw own [] (some (4000000,g0,ex true p.1 x.1))) w (VT (some (4000000,g0,ex true p.1 x.1))) (akE []) (.c (.ptr 4000000 0)) u:=⟨by simp[VT,au],W⟩;refine⟨[],some (4000000,g0,ex true p.1 x.1),⟨fun z j=>by simp at j,fun z j=>by simp at j,fun z j=>by simp at j,fun d g l o=>?_⟩,rfl,rfl,⟨hrel,rest _ _⟩,hrel,fun h=>by cases h⟩;cases o;exact⟨bp,rfl,cs,e,true,p.1,x.1,X,rfl,iN (fun g m=>⟨m.1,.inl m.2⟩) Y⟩
 |i+1,p::ps,x,vs,t,h=>by obtain⟨v,M,rfl,E,O⟩:=h;simp only[eE,aG,kj]at t;have H:p.2=true\/p.1.n=1:=t.1.imp_right aO;obtain⟨L,B,r,I,q,K,R,S⟩:=abY D i ps x.2 M t.2 O;refine⟨L,B,r,I,q,⟨aDb (f:=false) H ?_,K⟩,R,S⟩;obtain⟨cs,qm,qn⟩:=E;exact⟨cs,iN (fun g m=>VU (f:=false) ⟨D.df g m,.inr ⟨rfl,m⟩⟩) qm,qn⟩
def avD {pm:PM}:∀(i:Nat) (ps:List (Ty×Bool)) (x:Args ps),i<ps.length->(exP pm i ps x).1.length=ps.length
 |0,p::ps,x,_=>by
  have:∀{f:Bool} {rs:List (Ty×Bool)} {y:Args rs},(exF f rs y).length=rs.length:=by
   intro f rs
   induction rs with
   |nil=>intro y;rfl|cons a l b=>intro y;simp[exF,b]
  simp[exP,this]
 |i+1,p::ps,x,h=>by have:=avD (pm:=pm) i ps x.2 (by simpa using h);simp[exP,this]
 |0,[],_,h=>by simp at h
 |_+1,[],_,h=>by simp at h
def pe.ayd {w:World}{okE anz:Nat->Prop}{own bQ:Nat->Option Nat}(m:∀g j,own g=some j->bQ g=some j)(n:∀g,okE g->anz g):∀{rs:List (Ty×Bool)} {x:Args rs} {j:Nat} {vs:List Value},pe w okE own rs x j vs->pe w anz bQ rs x j vs:=by
 have o:∀{t:Ty} {x:t.D} {j:Nat} {c:List Value},FrC w okE own t x j c->FrC w anz bQ t x j c:=by
  intro t
  induction t with
  |int k=>exact fun h=>h
  |bool=>exact fun h=>h
  |str=>exact fun h=>h
  |unit=>exact fun h=>h
  |pair a b p q =>
   intro x j c h;obtain⟨r,s,e,d,f⟩:=h;exact⟨r,s,e,p d,q f⟩
  |sl e t _ =>
   intro x j c h;obtain⟨v,rows,d,f,i,u,y⟩:=h;exact⟨v,rows,d,f,i,fun g z=>m g _ (u g z),l0 n y⟩
 intro rs
 induction rs with
 |nil=>exact fun h=>h
 |cons a l A =>
  intro x j vs h;obtain⟨v,B,e,⟨c,d,f⟩,i⟩:=h;exact⟨v,B,e,⟨c,o d,f⟩,A i⟩
def anL (h:Inv w0 G st a w){p:Ty×Bool}{c:List AC}{cs:Array Value}(hrel:ch (bC G w st.bx st.bl) c cs.toList)(j:wQ c=true){y:p.1.D}(hi:imV st p (.agg c)=some y){ok:Nat->Prop}
  (df:∀f e t xs,AC.ro f e t xs∈c->∀g,RO G f g->ok g):ed w ok [p] (y,()) [.agg cs]:=by
 refine⟨_,[],rfl,aAT h (x:=.agg c) (u:=.agg cs) ⟨cs,rfl,hrel⟩ (fun t n v xs i k l=>?_) hi,rfl⟩;refine ks h k l (fun id len b d _=>?_) (fun f e u m d=>?_)
 .subst d;exact absurd i (agJ j id len)
 .subst d;exact df f e u m i
def aye (l m:List CV):aV (l++m)=aV l++aV m:=by
 induction l with
 |nil=>rfl|cons c l b=>simp[aV,b]
def VV (o:Inv w0 G st a w){w1:World}{ok nw:Nat->Prop}{own:Nat->Option Nat}{g0:Nat}{u:Value}(hnw:G.nw=nw)(df:G.ok=ok)(qd:w0.pv=u)(I:∀g k,G.own g=some k->w1.heap.size<=g\/(own g).isSome=true)
  {con:Pr} (qp:con.pm=.rd->∀g k,G.own g=some k->w1.heap.size<=g) (qk:con.pm=.box\/con.pm=.cur->u=.pointer (some ⟨g0,0,none⟩)) {l:List CV} {us:List Value} (B:ch (eF G w st.bx st.bl) l us) {r:Args con.rs×Args con.qs}
  (j:arD st con.pm con.rs con.qs con.m l=some r):anu con w1 w ok nw own g0 u r us:=by
 obtain⟨qA,i,pm,rs,m,qB,g⟩:=con;dsimp only at *;subst hnw;subst df;have qe:∀(bQ:Nat->Option Nat),(∀g,G.own g=none->bQ g=none)->∀g,RO G (m2 m) g->bQ g=none/\(G.nw g\/(m2 m=false/\G.ok g)):=fun bQ h g d=>⟨h g d.1,d.2⟩
 unfold arD at j;cases pm with
 |rd =>
  dsimp only at j;split at j
  .split at j
   .rename_i ql n;split at j
    .rename_i _ b;split at j
     .rename_i c M;split at j
      .rename_i z;rw[aG]at z;split at j
       .rename_i D s;cases j;obtain⟨cs,e,K,bp,hrel⟩:=o.bx b c M;obtain⟨v,rfl⟩:∃v,us=[v]:=by
         cases us with
         |nil=>exact B.elim
         |cons v us =>
          cases us with
          |nil=>exact⟨v,rfl⟩|cons _ _=>exact B.2.elim
        have qm:v=.pointer (some ⟨G.hb b,0,none⟩):=B.1.2;have qf:=qp rfl _ _ bp;refine⟨fun g=>if g=G.hb b then some 0 else none,fun g L d=>?_,trivial,?_⟩
        .dsimp only at d;split at d
         .rename_i F;exact .inl (F▸qf)
         .cases d
        .have key:ed w (fun g=>(if g=G.hb b then some 0 else none)=(none:Option Nat)/\(G.nw g\/(ql=false/\G.ok g))) rs D [.agg cs]:=by
          match rs,D,s with
          |[p],D,s =>
           simp only[Cb]at s;split at s
           .rename_i y qq;cases s;refine anL o hrel z.2 qq fun f e t xs n g d=>⟨?_,?_⟩
            .have:g≠G.hb b:=by rintro rfl;have:=d.1;rw[bp]at this;cases this
             simp[this]
            .have:=ats _ z.1 _ n;refine d.2.imp_right fun h=>⟨?_,h.2⟩
             cases ql with
             |false=>rfl
             |true =>
              have S:=this rfl;rw[S]at h;cases h.1
           .cases s
          |[],_,s=>simp[Cb]at s
          |_::_::_,_,s =>
           simp only[Cb]at s;split at s<;>cases s
         unfold rdM at n;split at n
         .cases n;exact⟨G.hb b,cs,e,by rw[qm],qf,by simp,K,kt (fun g d=>⟨d.1,d.2.elim (fun h=>h) fun h=>by cases h.1⟩) key⟩
         .cases n;exact⟨G.hb b,cs,e,by rw[qm],qf,by simp,K,kt (fun g d=>⟨d.1,d.2.imp_right fun h=>h.2⟩) key⟩
         .cases n
       .cases j
      .cases j
     .cases j
    .cases j
   .cases j
  .cases j
 |own f =>
  dsimp only at j;split at j
  .rename_i n;rw[kj]at n;have A:m=2\/m=3:=n.imp aO aO;split at j
   .split at j
    .rename_i z;rw[aG]at z;split at j
     .rename_i D s;cases j;have O:=(H5 A (qe (cg G (aV l)) fun g d=>by simp[cg,d]) o (aV l) [] rs l us D B (pre:=[]) (seen:=[]) (by simp) (fun id len n=>by simp at n) (by rw[fh];exact z.1) z.2 s).1;refine⟨cg G (aV l),fun g L d=>?_,rfl,?_⟩
      .unfold cg at d;split at d
       .rename_i id hid;exact I g _ hid
       .cases d
      .rcases A with rfl|rfl<;>exact O
     .cases j
    .cases j
   .rename_i q;split at j
    .rename_i c M;split at j
     .rename_i z;simp only[aG]at z;obtain⟨⟨E,T⟩,W⟩:=z;split at j
      .rename_i D qg s Q;cases j;have qt:eF G w st.bx st.bl c u:=by have:=o.sp;rw[M,qd]at this;exact this
       rw[aye]at E;obtain⟨O,qu,R,x,qv⟩:=H5 A (qe (cg G (aV l++aV [c])) fun g d=>by simp[cg,d]) o (aV l++aV [c]) (aV [c]) rs l us D B (pre:=[]) (seen:=[]) (by simp) (fun id len n=>by simp at n) E T s;obtain⟨qn,_⟩:=H5 A (qe (cg G (aV l++aV [c])) fun g d=>by simp[cg,d]) o (aV l++aV [c]) [] [q] [c] [u] qg ⟨qt,trivial⟩ (pre:=aV l) (seen:=qu) (by simp) (fun id len n=>x id len (by simpa using n)) (by rw[fh];exact R) W Q;rw[qv]at qn;refine⟨cg G (aV l++aV [c]),fun g L d=>?_,qn,?_⟩
       .unfold cg at d;split at d
        .rename_i id hid;exact I g _ hid
        .cases d
       .rcases A with rfl|rfl<;>exact O
      .cases j
     .cases j
    .cases j
   .cases j
  .cases j
 |box =>
  dsimp only at j;generalize qh:st.sp=qw at j;split at j
  .rename_i b q;have qi:=qh;split at j
   .rename_i c M;split at j
    .rename_i z;simp only[aG]at z;obtain⟨⟨⟨X,E⟩,T⟩,W⟩:=z;split at j
     .rename_i D qg s Q;cases j;obtain⟨cs,e,K,bp,hrel⟩:=o.bx b c M;have qj:G.hb b=g0:=by
       have R:=o.sp;rw[qi,qd,qk (.inl rfl)]at R;have x:Value.pointer (some ⟨g0,0,none⟩)=.pointer (some ⟨G.hb b,0,none⟩):=R.2;injection x with x
       injection x with x
       injection x with x
       exact x.symm
      subst qj;have H:∀g,G.own g=none->g≠G.hb b:=by rintro g d rfl;rw[bp]at d;cases d
      by_cases n:m<=1
      ·
       refine⟨fun g=>if g=G.hb b then some (nOf rs) else none,fun g L d=>?_,⟨⟨nOf rs,by simp,bG _⟩,cs,e,K,?_⟩,?_⟩
       .dsimp only at d;split at d
        .rename_i F;exact F▸I _ _ bp
        .cases d
       .refine anL o hrel X Q fun f e t xs n g d=>⟨by simp[H g d.1],d.2.imp_right fun h=>h.2⟩
       .have A:m=0\/m=1:=by omega
        have Y:∀g id,G.own g=some (.bl id)->g≠G.hb b:=by rintro g id d rfl;rw[bp]at d;cases d
        rcases A with rfl|rfl
        .exact agK o B E s (fun f g _ d=>⟨by simp[H g d.1],d.2.imp_right fun h=>h.2⟩) (fun g id d=>⟨by simp[Y g id d],.inl (o.Vz d)⟩) (.inl rfl)
        .exact agK o B E s (fun f g S d=>⟨by simp[H g d.1],d.2.elim (fun h=>h) fun h=>by rw[S (by simp)]at h;cases h.1⟩) (fun g id d=>⟨by simp[Y g id d],o.Vz d⟩) (.inr rfl)
      .have A:m=2\/m=3:=by have:=F9 W;omega
       have qx:x9 st rs l=true:=by rcases A with rfl|rfl<;>exact T
       have O:=(H5 A (okE:=fun g=>G.own g=none/\(G.nw g\/(m2 m=false/\G.ok g))) (fun g d=>⟨d.1,d.2⟩) o (aV l) [] rs l us D B (pre:=[]) (seen:=[]) (by simp) (fun id len n=>by simp at n) (by rw[fh];exact E) qx s).1;have Z:∀g,G.own g=none->(if g=G.hb b then some (nOf rs) else cg G (aV l) g)=none:=by intro g d;rw[af (H g d)];simp[cg,d]
       refine⟨fun g=>if g=G.hb b then some (nOf rs) else cg G (aV l) g,fun g L d=>?_,⟨⟨nOf rs,by simp,bG _⟩,cs,e,K,?_⟩,?_⟩
       .dsimp only at d;split at d
        .rename_i F;exact F▸I _ _ bp
        .unfold cg at d;split at d
         .rename_i id hid;exact I g _ hid
         .cases d
       .refine anL o hrel X Q fun f e t xs n g d=>⟨Z g d.1,d.2.imp_right fun h=>h.2⟩
       .have qy:=pe.ayd (bQ:=fun g=>if g=G.hb b then some (nOf rs) else cg G (aV l) g) (anz:=fun g=>(if g=G.hb b then some (nOf rs) else cg G (aV l) g)=none/\(G.nw g\/(m2 m=false/\G.ok g))) (fun g L d=>by
         have:g≠G.hb b:=by rintro rfl;simp[cg,bp]at d
         simp[this,d]) (fun g d=>⟨Z g d.1,d.2⟩) O
        rcases A with rfl|rfl<;>exact qy
     .cases j
    .cases j
   .cases j
  .cases j
 |cur =>
  dsimp only at j;generalize qh:st.sp=qw at j;split at j
  .rename_i b q;have qi:=qh;split at j
   .rename_i c M;split at j
    .rename_i z;simp only[aG]at z;obtain⟨⟨⟨⟨X,qz⟩,E⟩,T⟩,W⟩:=z;split at j
     .rename_i D qg s Q;cases j;obtain⟨cs,e,K,bp,hrel⟩:=o.bx b c M;have qj:G.hb b=g0:=by
       have R:=o.sp;rw[qi,qd,qk (.inr rfl)]at R;have x:Value.pointer (some ⟨g0,0,none⟩)=.pointer (some ⟨G.hb b,0,none⟩):=R.2;injection x with x
       injection x with x
       injection x with x
       exact x.symm
      subst qj;have H:∀g,G.own g=none->g≠G.hb b:=by rintro g d rfl;rw[bp]at d;cases d
      have qo:∀f e t xs,AC.ro f e t xs∈c->f=true:=fun f e t xs n=>Pw qz f e t xs n
      by_cases n:m<=1
      .refine⟨fun g=>if g=G.hb b then some (nOf rs) else none,fun g L d=>?_,⟨⟨nOf rs,by simp,bG _⟩,cs,e,K,?_⟩,?_⟩
       .dsimp only at d;split at d
        .rename_i F;exact F▸I _ _ bp
        .cases d
       .refine anL o hrel X Q fun f e t xs n g d=>⟨by simp[H g d.1],d.2.elim (fun h=>h) fun h=>by rw[qo f e t xs n]at h;cases h.1⟩
       .have A:m=0\/m=1:=by omega
        have Y:∀g id,G.own g=some (.bl id)->g≠G.hb b:=by rintro g id d rfl;rw[bp]at d;cases d
        rcases A with rfl|rfl
        .exact agK o B E s (fun f g _ d=>⟨by simp[H g d.1],d.2.imp_right fun h=>h.2⟩) (fun g id d=>⟨by simp[Y g id d],.inl (o.Vz d)⟩) (.inl rfl)
        .exact agK o B E s (fun f g S d=>⟨by simp[H g d.1],d.2.elim (fun h=>h) fun h=>by rw[S (by simp)]at h;cases h.1⟩) (fun g id d=>⟨by simp[Y g id d],o.Vz d⟩) (.inr rfl)
      .have A:m=2:=by have:=F9 W;omega
       subst A;have O:=(H5 (.inl rfl) (okE:=fun g=>G.own g=none/\(G.nw g\/(m2 2=false/\G.ok g))) (fun g d=>⟨d.1,d.2⟩) o (aV l) [] rs l us D B (pre:=[]) (seen:=[]) (by simp) (fun id len n=>by simp at n) (by rw[fh];exact E) T s).1;have Z:∀g,G.own g=none->(if g=G.hb b then some (nOf rs) else cg G (aV l) g)=none:=by intro g d;rw[af (H g d)];simp[cg,d]
       refine⟨fun g=>if g=G.hb b then some (nOf rs) else cg G (aV l) g,fun g L d=>?_,⟨⟨nOf rs,by simp,bG _⟩,cs,e,K,?_⟩,?_⟩
       .dsimp only at d;split at d
        .rename_i F;exact F▸I _ _ bp
        .unfold cg at d;split at d
         .rename_i id hid;exact I g _ hid
         .cases d
       .refine anL o hrel X Q fun f e t xs n g d=>⟨Z g d.1,d.2.elim (fun h=>h) fun h=>by rw[qo f e t xs n]at h;cases h.1⟩
       .exact pe.ayd (bQ:=fun g=>if g=G.hb b then some (nOf rs) else cg G (aV l) g) (anz:=fun g=>(if g=G.hb b then some (nOf rs) else cg G (aV l) g)=none/\(G.nw g\/(m2 2=false/\G.ok g))) (fun g L d=>by
         have:g≠G.hb b:=by rintro rfl;simp[cg,bp]at d
         simp[this,d]) (fun g d=>⟨Z g d.1,d.2⟩) O
     .cases j
    .cases j
   .cases j
  .cases j
def ZY {T : Tab} (qg : ∀ f con, C f = some con → tg P T f con) {f : FuncId} {m : Func} {con : Pr} (z : P.funcs[f]? = some m) (qh : (m.name == "runtime.NumGoroutine") = false) (E : m.body.isNone = false) (qi : aED con)
  (H:Nat->Option Hint) (qj:∀x r,con.g x=some r->∃N,aCT P C (rH.RJ N) H m con.ps con.i con.pm con.rs con.qs con.m x=some r):anv P T f con:=by
 refine⟨⟨m,z,qh,E⟩,qi,fun x r M w qk ok nw own I q u F S=>?_⟩;obtain⟨N,K⟩:=qj x r M;obtain⟨W,K⟩:=aX K;simp only[aG]at W;obtain⟨⟨⟨ql,qm⟩,qn⟩,qK⟩:=W;obtain⟨c,X⟩:∃c,m.body=some c:=by
  cases h:m.body with
  |none=>rw[h]at E;cases E|some c=>exact⟨c,rfl⟩
 have qo:eW m=c:=by simp[eW,X]
 rw[qo]at K;obtain⟨L,B,qp,qq,qt,hrel,qu,qv⟩:=abY F con.i con.ps x q qn S;have hlen:q.length=con.ps.length:=by rw[<-avD (pm:=con.pm) con.i con.ps x (gO qm)];exact hrel.len.symm
 have Y:∀g,(∃k,(Zf ok nw own L B).own g=some k)->∃j,own g=some j:=by
  rintro g ⟨k,n⟩;simp only[Zf]at n;cases qw:own g with
  |none=>rw[qw]at n;cases n|some j=>exact⟨j,rfl⟩
 have qx:∀g,(∃k,(Zf ok nw own L B).own g=some k)->nw g:=by intro g M;obtain⟨j,s⟩:=Y g M;exact(F.bp g j s).1
 let R:fc:={w:=w,ok:=ok,nw:=nw,fr:=fun g=>∃k,(Zf ok nw own L B).own g=some k,hnw:=F.lZ,pv:=u,hfr:=qx}
 have O:∀g,R.fr g->∃j,own g=some j:=Y;have qy:Inv R (Zf ok nw own L B) (agz m.ntmps con.pm con.i con.ps x) {tmps:=q.toArray++Array.replicate (m.ntmps-q.toArray.size) undef,defers:=[]} w:=by unfold agz;rw[qq,qt];refine atu (R:=R) F rfl rfl rfl rfl (fun g k n=>Exists.intro k n) qp rfl ?_ qu (fun t v qz=>aA8 hrel qz);have:=F9 ql;simp[hlen];omega
 refine calls_of_wp z X (rO (w0:=R) (fun f con z=>(qg f con z).at qk fun b E=>by obtain⟨j,s⟩:=O b E;exact(F.bp b j s).2.2) H c (qy.aAM (as8 H)) K fun e qA dd qB A d y=>?_)
 have post:∀e,e=Exit.normal\/e=Exit.ret->(match RL P dd m.results.toList with
   |some l=>arD dd con.pm con.rs con.qs con.m l|none=>none)=some r->bodyPost P m (fun e A=>∃us,e=.returned (fp us)/\anu con w A ok nw own I u r us/\eY (fun g=>(own g).isSome=true) w A) e qB A:=by
  intro e qC y;split at y
  .rename_i l qD;obtain⟨us,qE,Z⟩:=VS (P:=P) d qD;have qF:∀g k,qA.own g=some k->w.heap.size<=g\/(own g).isSome=true:=by
    intro g k n;rcases(d.own g k n).1 with h1|h1
    .exact .inl h1
    .obtain⟨j,s⟩:=O g h1;exact .inr (by rw[s];rfl)
   have qd:∃qe,Ending.returned (fp us)=.returned (fp qe)/\anu con w A ok nw own I u r qe/\eY (fun g=>(own g).isSome=true) w A:=by
    refine⟨us,rfl,VV d d.nw d.rok rfl qF (fun D g k n=>?_) (fun D=>?_) qE y,?_⟩
    .rcases(d.own g k n).1 with h1|h1
     .exact h1
     .obtain⟨qL,Q⟩:=h1;obtain⟨qG,qH⟩:=qv D;subst qG;subst qH;simp only[Zf,Dl,OW]at Q;split at Q<;>cases Q
    .have:∀(i:Nat) (o:List (Ty×Bool)) (x:Args o) (q:List Value),VH w ok nw own I con.pm i o x q u->u=.pointer (some ⟨I,0,none⟩):=by
      intro i
      induction i with
      |zero =>
       intro o x q h;cases o with
       |nil=>exact h.elim
       |cons p o =>
        obtain⟨qf,_,h1,_⟩:=h;rcases D with D|D<;>rw[D]at h1<;>exact h1.1
      |succ i qI =>
       intro o x q h;cases o with
       |nil=>exact h.elim
       |cons p o =>
        obtain⟨v,qf,_,_,h1⟩:=h;exact qI o x.2 qf h1
     exact this _ _ _ _ S
    .exact⟨d.below.os,d.below.tape,d.below.output,d.below.size,fun k n z=>d.below.block k n fun hfr=>z (by obtain⟨j,s⟩:=O k hfr;rw[s];rfl)⟩
   rcases qC with rfl|rfl
   .exact bodyPost_end Z d.defers qd
   .exact bodyPost_ret Z d.defers qd
  .cases y
 cases e with
 |norm=>exact post .normal (.inl rfl) y|ret=>exact post .ret (.inr rfl) y|exit j=>cases y
def aIA {a b:Ty×Bool}{i f:CV}{g:Args [a,b]×Args []}{n:Args [b]}(h:arD st (.own true) [a,b] [] 2 [i,f]=some g)(d:Cb st [b] [f]=some n):g.1.2.1=n.1:=by
 simp only[arD,Nat.beq,agu]at h;split at h
 .split at h
  .rename_i r c;cases h;simp only[Cb]at c d;split at c
   .split at c
    .rename_i y e;split at e
     .rename_i z j;rw[j]at d;cases d;cases e;cases c;rfl
     .cases e
    .cases c
   .cases c
  .cases h
 .cases h
def aIB {b q:Ty×Bool}{c:CV}{d:Args [b]×Args [q]}{n:Args [b]}(h:arD st (.own true) [b] [q] 2 [c]=some d)(f:Cb st [b] [c]=some n):d.1.1=n.1:=by
 simp only[arD,Nat.beq,agu]at h;split at h
 .split at h
  .split at h
   .rename_i r y e g;cases h;rw[f]at e;cases e;rfl
   .cases h
  .cases h
 .cases h
def arO {T : Tab} (qj : ∀ f con, C f = some con → tg P T f con) {f : FuncId} {o : Func} {con : Sel} (D : P.funcs[f]? = some o) (M : (o.name == "runtime.NumGoroutine") = false) (p : o.body.isNone = false) (qk : nv con.ps con.i = some con.q)
  (H:Nat->Option Hint) (ql:∀x r,con.g x=some r->∃N,arE P C (rH.RJ N) H o con.ps con.i con.a con.b con.q x=some r):anw P T f con:=by
 refine⟨⟨o,D,M,p⟩,qk,fun x r W w qm ok nw own g0 E u I qn=>?_⟩;obtain⟨N,O⟩:=ql x r W;obtain⟨Z,O⟩:=aX O;simp only[aG]at Z;obtain⟨⟨⟨qo,qp⟩,qq⟩,qI⟩:=Z;obtain⟨c,qd⟩:∃c,o.body=some c:=by
  cases h:o.body with
  |none=>rw[h]at p;cases p|some c=>exact⟨c,rfl⟩
 have qt:eW o=c:=by simp[eW,qd]
 rw[qt]at O;obtain⟨L,B,qu,qv,qw,hrel,qx,qK⟩:=abY I con.i con.ps x E qq qn;have hlen:E.length=con.ps.length:=by rw[<-avD (pm:=(.own true)) con.i con.ps x (gO qp)];exact hrel.len.symm
 have qe:∀g,(∃k,(Zf ok nw own L B).own g=some k)->∃m,own g=some m:=by
  rintro g ⟨k,q⟩;simp only[Zf]at q;cases qy:own g with
  |none=>rw[qy]at q;cases q|some m=>exact⟨m,rfl⟩
 have qz:∀g,(∃k,(Zf ok nw own L B).own g=some k)->nw g:=by intro g W;obtain⟨m,y⟩:=qe g W;exact(I.bp g m y).1
 let R:fc:={w:=w,ok:=ok,nw:=nw,fr:=fun g=>∃k,(Zf ok nw own L B).own g=some k,hnw:=I.lZ,pv:=u,hfr:=qz}
 have X:∀g,R.fr g->∃m,own g=some m:=qe;have qA:Inv R (Zf ok nw own L B) (agz o.ntmps (.own true) con.i con.ps x) {tmps:=E.toArray++Array.replicate (o.ntmps-E.toArray.size) undef,defers:=[]} w:=by unfold agz;rw[qv,qw];refine atu (R:=R) I rfl rfl rfl rfl (fun g k q=>Exists.intro k q) qu rfl ?_ qx (fun t v qB=>aA8 hrel qB);have:=F9 qo;simp[hlen];omega
 refine calls_of_wp D qd (rO (w0:=R) (fun f con D=>(qj f con D).at qm fun b p=>by obtain⟨m,y⟩:=X b p;exact(I.bp b m y).2.2) H c (qA.aAM (as8 H)) O fun e qC dd qD F i d=>?_)
 have post:∀e,e=Exit.normal\/e=Exit.ret->aAL P o con.a con.b con.q Ex.norm dd=some r->bodyPost P o (fun e F=>∃us,e=.returned (fp us)/\aIt con w F ok nw own g0 u r us/\eY (fun g=>(own g).isSome=true) w F) e qD F:=by
  intro e qE d;simp only[aAL]at d;split at d
  .rename_i qL qF qG;obtain⟨us,Q,qf⟩:=VS (P:=P) i qG;obtain⟨z,s,rfl⟩:∃z s,us=[z,s]:=by
    match us,Q with
    |[z,s],_=>exact⟨z,s,rfl⟩|[],h=>exact h.elim|[_],h=>exact h.2.elim|_::_::_::_,h=>exact h.2.2.elim
   have qg:∀g k,qC.own g=some k->w.heap.size<=g\/(own g).isSome=true:=by
    intro g k q;rcases(i.own g k q).1 with h1|h1
    .exact .inl h1
    .obtain⟨m,y⟩:=X g h1;exact .inr (by rw[y];rfl)
   have qh:∃qi,Ending.returned (fp [z,s])=.returned (fp qi)/\aIt con w F ok nw own g0 u r qi/\eY (fun g=>(own g).isSome=true) w F:=by
    refine⟨[z,s],rfl,⟨z,s,rfl,?_⟩,?_⟩
    .split at d
     .rename_i n M;cases S:am9 con.b.1 n.1 with
      |true =>
       rw[S]at d;simp only[br]at d;split at d
       .rename_i Y K;cases d;have p:Y.1.2.1=n.1:=aIA K M;dsimp only;rw[p,S];have:=VV (con:=aJ7 con) i i.nw i.rok (g0:=g0) rfl qg (fun j=>by cases j) (fun j=>by rcases j with j|j<;>cases j) Q K;rw[<-p];exact this
       .cases d
      |false =>
       rw[S]at d;simp only[br]at d;obtain⟨A,d⟩:=aX d;split at d
       .rename_i Y K;cases d;have p:Y.1.1=n.1:=aIB K M;dsimp only;rw[p,S];have:=VV (con:=aK6 con) i i.nw i.rok (g0:=g0) rfl qg (fun j=>by cases j) (fun j=>by rcases j with j|j<;>cases j) (l:=[qF]) (us:=[s]) ⟨Q.2.1,trivial⟩ K;rw[<-p];refine⟨this,fun qH=>?_⟩;unfold aJJ at A;rw[qH]at A;split at A
        .rename_i l;obtain⟨E,rfl,hrel⟩:=Q.1;rw[aG]at A;exact⟨E,rfl,by rw[<-hrel.len,aO A.1],amB hrel (adF A.2)⟩
        .cases A
        .contradiction
       .cases d
     .cases d
    .exact⟨i.below.os,i.below.tape,i.below.output,i.below.size,fun k q D=>i.below.block k q fun hfr=>D (by obtain⟨m,y⟩:=X k hfr;rw[y];rfl)⟩
   rcases qE with rfl|rfl
   .exact bodyPost_end qf i.defers qh
   .exact bodyPost_ret qf i.defers qh
  .cases d
 cases e with
 |norm=>exact post .normal (.inl rfl) d|ret=>exact post .ret (.inr rfl) d|exit m=>cases d
end
end Go.Am
