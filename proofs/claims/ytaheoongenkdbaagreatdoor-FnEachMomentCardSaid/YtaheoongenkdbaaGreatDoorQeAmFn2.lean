/- No condition. -/
import Derived.Test.YtaheoongenkdbaaGreatDoorQeAmFn
set_option linter.all false
namespace Go.Am
open Go.RowKit
section
variable {N:Nat} {P:Program} {C:FuncId->Option Any} {w0:eH} {w:World} {G:Gh} {st:St} {a:Act}
def XH (ok nw:Nat->Prop)(own:Nat->Option Nat)(L:List (Nat×fo×Value))(B:Option (Nat×Nat×List AC)):Gh :=
 {nw:=nw,ok:=ok,hb:=fun _=>match B with|some (_,b,_)=>b|none=>0,hv:=fun i=>hvL L i,own:=fun g=>match own g with|none=>none|some _=>CL L B g}
def Uv:Option (Nat×Nat×List AC)->List (Nat×List AC)
 |none=>[]|some (d,_,l)=>[(d,l)]
def aiU (L:List (Nat×fo×Value)):List (Nat×Option fo):=L.map fun z=>(z.1,some z.2.1)
structure atM (w:World) (ok nw:Nat->Prop) (own:Nat->Option Nat) (L:List (Nat×fo×Value)) (B:Option (Nat×Nat×List AC)):Prop where
 row:∀z∈L,z.2.1.w=true/\0<z.2.1.t.n/\(∃rows,w.ownsRow 0 z.2.1.e z.2.1.t.n z.2.2 z.2.1.xs.length rows/\eT w (fun g=>own g=none/\(nw g\/(z.2.1.f=false/\ok g))) z.2.1.t rows z.2.1.xs)/\∀g,z.2.2.ownBlock=some g->(own g).isSome=true
 inj:∀z∈L,∀z'∈L,∀g,z.2.2.ownBlock=some g->z'.2.2.ownBlock=some g->z=z'
 uniq:∀z∈L,∀z'∈L,z.1=z'.1->z=z'
 box:∀d g l,B=some (d,g,l)->(own g).isSome=true/\L=[]/\∃cs e f t x,w.heap[g]?=some (.cells cs e (0,0))/\l=ex f t x/\Rd w (fun g=>own g=none/\(nw g\/(f=false/\ok g))) t x cs.toList
def Uw {ok nw:Nat->Prop}{own:Nat->Option Nat}{L:List (Nat×fo×Value)}{B:Option (Nat×Nat×List AC)}{f:Bool}{g:Nat}(h:own g=none/\(nw g\/(f=false/\ok g))):RO (XH ok nw own L B) f g :=
 ⟨by simp[XH,h.1],h.2⟩
def arL {ok nw:Nat->Prop}{own:Nat->Option Nat}{W:Nat->Prop}(X:Handed w W ok nw own){R:eH}(Y:R.hd=fun _=>none)(A:R.w=w)(cW:R.ok=ok)(hnw:R.nw=nw){L:List (Nat×fo×Value)}{B:Option (Nat×Nat×List AC)}
  (hfr:∀g k,(XH ok nw own L B).own g=some k->R.fr g) (j:atM w ok nw own L B) {nt:Nat} {tm:List (Nat×AV)} {sp:AV} (Z:a.defers=[]) (hs:a.tmps.size=nt)
  (qa:iy (XH ok nw own L B) w (Uv B) (aiU L) sp R.pv) (qb:∀t v,look tm t=some v->iy (XH ok nw own L B) w (Uv B) (aiU L) v (a.tmps.getD t undef)) :
  Inv R (XH ok nw own L B) {nt:=nt,tm:=tm,bx:=Uv B,bl:=aiU L,sp:=sp} a w:=by
 subst A;have qd:∀z∈L,∀g,z.2.2.ownBlock=some g->(XH ok nw own L B).own g=some (.bl z.1):=by
  intro z p g h;have r:=(j.row z p).2.2.2 g h;obtain⟨D,E⟩:=iR.1 r;have qe:B=none:=by
   cases B with
   |none=>rfl
   |some q =>
    obtain⟨d,s,l⟩:=q;have:=(j.box d s l rfl).2.1;rw[this]at p;simp at p
  subst qe;simp only[XH,E,CL];unfold NO;cases i:L.find? fun z=>z.2.2.ownBlock==some g with
  |none =>
   have:=alc.1 i z p;simp[h]at this
  |some y =>
   have m:=ahh i;have n:=TW i;rw[<-j.inj z p y n g h (by simpa using m)];rfl
 refine⟨hnw.symm,cW.symm,eG.refl _ _,Z,hs,qa,fun g b qi Q=>(by rw[Y]at Q;cases Q),qb,fun d l o=>?_,fun id b qf=>?_,fun g k c=>?_⟩
 .cases B with
  |none=>simp[Uv,look]at o
  |some q =>
   obtain⟨F,s,qg⟩:=q;simp only[Uv,aq]at o;by_cases H:F=d
   .rw[ag H]at o;cases o;subst H;obtain⟨m,n,cs,e,f,t,x,I,K,S⟩:=j.box F s l rfl;refine⟨cs,e,I,?_,?_⟩
    .obtain⟨D,E⟩:=iR.1 m;simp[XH,E,CL]
    .rw[K];exact Ud (ic (fun g h=>Uw (f:=f) h) S)
   .rw[af H]at o;simp[look]at o
 .obtain⟨v,M⟩:=abZ qf;obtain⟨m,n,⟨rows,I,K⟩,S⟩:=j.row _ M;have T:(XH ok nw own L B).hv id=v:=W4 j.uniq M;refine⟨fun _=>⟨rows,by rw[T];exact I,fun g h=>?_,k8 (fun g h=>Uw h) K⟩,fun A=>?_,n⟩
  .rw[T]at h;exact qd _ M g h
  .rw[show b.w=true from m]at A;cases A
 .have qh:=c;unfold XH at c;dsimp only at c;cases r:own g with
  |none=>rw[r]at c;cases c
  |some D =>
   rw[r]at c;dsimp only at c;refine⟨.inr (hfr g k qh),(X.bm g D r).2.1,?_⟩;have rows:NO L g=some k->aD0 (XH ok nw own L B) (Uv B) (aiU L) g k:=by
    intro u;unfold NO at u;cases i:L.find? fun z=>z.2.2.ownBlock==some g with
    |none=>rw[i]at u;cases u
    |some y =>
     rw[i]at u;cases u;have m:=ahh i;have n:=TW i;refine⟨j6 n,?_⟩;rw[show(XH ok nw own L B).hv y.1=y.2.2 from W4 j.uniq n];simpa using m
   cases B with
   |none=>have:=rows c;cases k with|bx d=>exact this|bl id=>exact this|hid=>trivial
   |some q =>
    obtain⟨F,s,qg⟩:=q;simp only[CL]at c;by_cases O:g=s
    .rw[ag O]at c;cases c;exact⟨by simp[Uv,aq],by simp[XH,O]⟩
    .rw[af O]at c;have:=rows c;cases k with|bx d=>exact this|bl id=>exact this|hid=>trivial
def aA0 {f:Bool}{G:Gh}{bx:List (Nat×List AC)}{bl:List (Nat×Option fo)}{p:Ty×Bool}{x:p.1.D}{v:Value}(b:p.2=true\/p.1.n=1)(h:abX w (RO G f) p x v) :
  en G w bx bl (match p.2 with|true=>.agg (ex f p.1 x)|false=>.c (match ex f p.1 x with|[c]=>c|_=>.none)) v:=by
 have:=CK (f:=f) (bx:=bx) (bl:=bl) (rs:=[p]) (x:=(x,())) (vs:=[v]) (by simp only[ek,aA,iS];exact⟨b.imp_right fun h=>by rw[h];rfl,trivial⟩) ⟨v,[],rfl,h,rfl⟩
 exact this.1
def aam {ok nw:Nat->Prop}{own:Nat->Option Nat}{qf:Nat->Prop}(D:Handed w qf ok nw own){g0:Nat}{u:Value}{pm:PM}:∀(i:Nat) (ps:List (Ty×Bool)) (x:Args ps) (vs:List Value),ek ps=true->Ui w ok nw own g0 pm i ps x vs u ->
  ∃L B,atM w ok nw own L B/\(exP pm i ps x).2.2.1=aiU L/\(exP pm i ps x).2.2.2=Uv B/\cg (en (XH ok nw own L B) w (Uv B) (aiU L)) (exP pm i ps x).1 vs/\en (XH ok nw own L B) w (Uv B) (aiU L) (exP pm i ps x).2.1 u /\
   (pm=.rd->L=[]/\B=none)
 |0,[],x,vs,_,h=>h.elim|_+1,[],x,vs,_,h=>h.elim|0,p::ps,x,vs,t,h=>by
  obtain⟨M,rfl,F,O⟩:=h;simp only[ek,aA,iS]at t;have H:p.2=true\/p.1.n=1:=t.1.imp_right aJ;have rest:∀L B,cg (en (XH ok nw own L B) w (Uv B) (aiU L)) (exF false ps x.2) M:=fun L B =>
   CK t.2 (jP (fun g m=>Uw ⟨D.cW g m,.inr ⟨rfl,m⟩⟩) O)
  cases pm with
  |rd =>
   have E:abX w ok p x.1 u:=F;have r:en (XH ok nw own [] none) w (Uv none) (aiU []) (aHZ .rd p x.1).1 u:=aA0 (f:=false) H (by obtain⟨cs,r,I⟩:=E;exact⟨cs,ic (fun g m=>Uw (f:=false) ⟨D.cW g m,.inr ⟨rfl,m⟩⟩) r,I⟩)
   exact⟨[],none,⟨fun z j=>by simp at j,fun z j=>by simp at j,fun z j=>by simp at j,fun d g l o=>by cases o⟩,rfl,rfl,⟨r,rest [] none⟩,r,fun _=>⟨rfl,rfl⟩⟩
  |own f =>
   have E:aAR w (fun g=>own g=none/\(nw g\/(f=false/\ok g))) own p x.1 0 u:=F;obtain⟨L,y,Z⟩:=aDW (id:=62500) (f:=f) E H;have Q:atM w ok nw own L none:=by
    refine⟨fun z j=>?_,fun z j qa qb g m qg=>?_,y.uniq,fun d g l o=>by cases o⟩
    .obtain⟨r,I,q⟩:=y.rows z j;refine⟨q.wr,q.pos,?_,fun g m=>by rw[q.oG g m];rfl⟩;obtain⟨rows,K,R⟩:=q.row;exact⟨rows,K,aeV (fun qh g m=>by rw[q.nf,qh,alm];exact m) R⟩
    .obtain⟨r,_,q⟩:=y.rows z j;obtain⟨K,_,S⟩:=y.rows qa qb;have qi:=q.oG g m;have qd:=S.oG g qg;rw[qi]at qd;have:=eE qd;exact y.uniq z j qa qb (by omega)
   have hrel:∀c v,sU L c v->bz (XH ok nw own L none) w (Uv none) (aiU L) c v:=by
    intro c v A;cases c with
    |own i len =>
     cases len with
     |some l=>exact A.elim
     |none =>
      obtain⟨b,T⟩:=A;have qe:(XH ok nw own L none).hv i=v:=W4 Q.uniq T;refine⟨j6 T,?_,qe.symm⟩;rw[qe];obtain⟨_,_,⟨rows,qj,_⟩,_⟩:=Q.row _ T;rcases qj.2 with ⟨o,_⟩|⟨qm,cap,cur,o,_⟩
      .exact⟨_,_,_,o⟩
      .exact⟨_,_,_,o⟩
    |int k n=>exact A|bool b=>exact A|str s=>exact A|_=>exact A.elim
   exact⟨L,none,Q,y.q,rfl,⟨Un hrel Z,rest L none⟩,Un hrel Z,fun h=>by cases h⟩
  |box =>
   obtain⟨W,bm,cs,e,X,Y⟩:=(show u=.pointer (some ⟨g0,0,none⟩)/\(own g0).isSome=true/\∃cs e,w.heap[g0]?=some (.cells cs e (0,0))/\Rd w ok p.1 x.1 cs.toList from F);have hrel:en (XH ok nw own [] (some (4000000,g0,ex false p.1 x.1))) w (Uv (some (4000000,g0,ex false p.1 x.1))) (aiU []) (.c (.ptr 4000000 0)) u:=⟨by simp[Uv,aq],W⟩;refine⟨[],some (4000000,g0,ex false p.1 x.1),⟨fun z j=>by simp at j,fun z j=>by simp at j,fun z j=>by simp at j,fun d g l o=>?_⟩,rfl,rfl,⟨hrel,rest _ _⟩,hrel,fun h=>by cases h⟩;cases o;exact⟨bm,rfl,cs,e,false,p.1,x.1,X,rfl,ic (fun g m=>⟨D.cW g m,.inr ⟨rfl,m⟩⟩) Y⟩
  |cur =>
   obtain⟨W,bm,cs,e,X,Y⟩:=(show u=.pointer (some ⟨g0,0,none⟩)/\(own g0).isSome=true/\∃cs e,w.heap[g0]?=some (.cells cs e (0,0))/\Rd w (fun g=>own g=none/\nw g) p.1 x.1 cs.toList from F);have hrel:en (XH ok nw own [] (some (4000000,g0,ex true p.1 x.1))) w (Uv (some (4000000,g0,ex true p.1 x.1))) (aiU []) (.c (.ptr 4000000 0)) u:=⟨by simp[Uv,aq],W⟩;refine⟨[],some (4000000,g0,ex true p.1 x.1),⟨fun z j=>by simp at j,fun z j=>by simp at j,fun z j=>by simp at j,fun d g l o=>?_⟩,rfl,rfl,⟨hrel,rest _ _⟩,hrel,fun h=>by cases h⟩;cases o;exact⟨bm,rfl,cs,e,true,p.1,x.1,X,rfl,ic (fun g m=>⟨m.1,.inl m.2⟩) Y⟩
 |i+1,p::ps,x,vs,t,h=>by obtain⟨v,M,rfl,E,O⟩:=h;simp only[ek,aA,iS]at t;have H:p.2=true\/p.1.n=1:=t.1.imp_right aJ;obtain⟨L,B,r,I,q,K,R,S⟩:=aam D i ps x.2 M t.2 O;refine⟨L,B,r,I,q,⟨aA0 (f:=false) H ?_,K⟩,R,S⟩;obtain⟨cs,qk,ql⟩:=E;exact⟨cs,ic (fun g m=>Uw (f:=false) ⟨D.cW g m,.inr ⟨rfl,m⟩⟩) qk,ql⟩
def atN {pm:PM}:∀(i:Nat) (ps:List (Ty×Bool)) (x:Args ps),i<ps.length->(exP pm i ps x).1.length=ps.length
 |0,p::ps,x,_=>by
  have:∀{f:Bool} {rs:List (Ty×Bool)} {y:Args rs},(exF f rs y).length=rs.length:=by
   intro f rs
   induction rs with
   |nil=>intro y;rfl|cons a l b=>intro y;simp[exF,b]
  simp[exP,this]
 |i+1,p::ps,x,h=>by have:=atN (pm:=pm) i ps x.2 (by simpa using h);simp[exP,this]
 |0,[],_,h=>by simp at h
 |_+1,[],_,h=>by simp at h
def oI.awm {w:World}{okE alR:Nat->Prop}{own bN:Nat->Option Nat}(m:∀g j,own g=some j->bN g=some j)(n:∀g,okE g->alR g):∀{rs:List (Ty×Bool)} {x:Args rs} {j:Nat} {vs:List Value},oI w okE own rs x j vs->oI w alR bN rs x j vs:=by
 have o:∀{t:Ty} {x:t.D} {j:Nat} {c:List Value},FrC w okE own t x j c->FrC w alR bN t x j c:=by
  intro t
  induction t with
  |int k=>exact fun h=>h
  |bool=>exact fun h=>h
  |str=>exact fun h=>h
  |unit=>exact fun h=>h
  |pair a b p q =>
   intro x j c h;obtain⟨r,s,e,d,f⟩:=h;exact⟨r,s,e,p d,q f⟩
  |sl e t _ =>
   intro x j c h;obtain⟨v,rows,d,f,i,u,y⟩:=h;exact⟨v,rows,d,f,i,fun g z=>m g _ (u g z),k8 n y⟩
 intro rs
 induction rs with
 |nil=>exact fun h=>h
 |cons a l A =>
  intro x j vs h;obtain⟨v,B,e,⟨c,d,f⟩,i⟩:=h;exact⟨v,B,e,⟨c,o d,f⟩,A i⟩
def al7 (h:Inv w0 G st a w){p:Ty×Bool}{c:List AC}{cs:Array Value}(hrel:cg (bz G w st.bx st.bl) c cs.toList)(j:wh c=true){y:p.1.D}(k:imV st p (.agg c)=some y){ok:Nat->Prop}
  (cW:∀f e t xs,AC.ro f e t xs∈c->∀g,RO G f g->ok g):dS w ok [p] (y,()) [.agg cs]:=by
 refine⟨_,[],rfl,ayW h (x:=.agg c) (u:=.agg cs) ⟨cs,rfl,hrel⟩ (fun t o v xs i l m=>?_) k,rfl⟩;refine jO h l m (fun id len b d _=>?_) (fun f e u n d=>?_)
 .subst d;exact absurd i (ae0 j id len)
 .subst d;exact cW f e u n i
def awn (l m:List CV):aR (l++m)=aR l++aR m:=by
 induction l with
 |nil=>rfl|cons c l b=>simp[aR,b]
def Ux (o:Inv w0 G st a w){w1:World}{ok nw:Nat->Prop}{own:Nat->Option Nat}{g0:Nat}{u:Value}(hnw:G.nw=nw)(cW:G.ok=ok)(qa:w0.pv=u)(I:∀g k,G.own g=some k->w1.heap.size<=g\/(own g).isSome=true)
  {con:Og} (qn:con.pm=.rd->∀g k,G.own g=some k->w1.heap.size<=g) (qi:con.pm=.box\/con.pm=.cur->u=.pointer (some ⟨g0,0,none⟩)) {l:List CV} {us:List Value} (B:cg (en G w st.bx st.bl) l us) {r:Args con.rs×Args con.qs}
  (j:apW st con.pm con.rs con.qs con.m l=some r):alN con w1 w ok nw own g0 u r us:=by
 obtain⟨qy,i,pm,rs,m,qz,g⟩:=con;dsimp only at *;subst hnw;subst cW;have qb:∀(bN:Nat->Option Nat),(∀g,G.own g=none->bN g=none)->∀g,RO G (m2 m) g->bN g=none/\(G.nw g\/(m2 m=false/\G.ok g)):=fun bN h g d=>⟨h g d.1,d.2⟩
 unfold apW at j;cases pm with
 |rd =>
  dsimp only at j;split at j
  .split at j
   .rename_i qj n;split at j
    .rename_i _ b;split at j
     .rename_i c M;split at j
      .rename_i z;rw[aA]at z;split at j
       .rename_i D s;cases j;obtain⟨cs,e,K,bm,hrel⟩:=o.bx b c M;obtain⟨v,rfl⟩:∃v,us=[v]:=by
         cases us with
         |nil=>exact B.elim
         |cons v us =>
          cases us with
          |nil=>exact⟨v,rfl⟩|cons _ _=>exact B.2.elim
        have qk:v=.pointer (some ⟨G.hb b,0,none⟩):=B.1.2;have qd:=qn rfl _ _ bm;refine⟨fun g=>if g=G.hb b then some 0 else none,fun g L d=>?_,trivial,?_⟩
        .dsimp only at d;split at d
         .rename_i F;exact .inl (F▸qd)
         .cases d
        .have key:dS w (fun g=>(if g=G.hb b then some 0 else none)=(none:Option Nat)/\(G.nw g\/(qj=false/\G.ok g))) rs D [.agg cs]:=by
          match rs,D,s with
          |[p],D,s =>
           simp only[BF]at s;split at s
           .rename_i y qo;cases s;refine al7 o hrel z.2 qo fun f e t xs n g d=>⟨?_,?_⟩
            .have:g≠G.hb b:=by rintro rfl;have:=d.1;rw[bm]at this;cases this
             simp[this]
            .have:=arJ _ z.1 _ n;refine d.2.imp_right fun h=>⟨?_,h.2⟩
             cases qj with
             |false=>rfl
             |true =>
              have S:=this rfl;rw[S]at h;cases h.1
           .cases s
          |[],_,s=>simp[BF]at s
          |_::_::_,_,s =>
           simp only[BF]at s;split at s<;>cases s
         unfold rdM at n;split at n
         .cases n;exact⟨G.hb b,cs,e,by rw[qk],qd,by simp,K,jP (fun g d=>⟨d.1,d.2.elim (fun h=>h) fun h=>by cases h.1⟩) key⟩
         .cases n;exact⟨G.hb b,cs,e,by rw[qk],qd,by simp,K,jP (fun g d=>⟨d.1,d.2.imp_right fun h=>h.2⟩) key⟩
         .cases n
       .cases j
      .cases j
     .cases j
    .cases j
   .cases j
  .cases j
 |own f =>
  dsimp only at j;split at j
  .rename_i n;rw[iS]at n;have A:m=2\/m=3:=n.imp aJ aJ;split at j
   .split at j
    .rename_i z;rw[aA]at z;split at j
     .rename_i D s;cases j;have O:=(Hh A (qb (ch G (aR l)) fun g d=>by simp[ch,d]) o (aR l) [] rs l us D B (pre:=[]) (seen:=[]) (by simp) (fun id len n=>by simp at n) (by rw[fU];exact z.1) z.2 s).1;refine⟨ch G (aR l),fun g L d=>?_,rfl,?_⟩
      .unfold ch at d;split at d
       .rename_i id hid;exact I g _ hid
       .cases d
      .rcases A with rfl|rfl<;>exact O
     .cases j
    .cases j
   .rename_i q;split at j
    .rename_i c M;split at j
     .rename_i z;simp only[aA]at z;obtain⟨⟨E,T⟩,W⟩:=z;split at j
      .rename_i D qe s Q;cases j;have qp:en G w st.bx st.bl c u:=by have:=o.sp;rw[M,qa]at this;exact this
       rw[awn]at E;obtain⟨O,qq,R,x,qt⟩:=Hh A (qb (ch G (aR l++aR [c])) fun g d=>by simp[ch,d]) o (aR l++aR [c]) (aR [c]) rs l us D B (pre:=[]) (seen:=[]) (by simp) (fun id len n=>by simp at n) E T s;obtain⟨ql,_⟩:=Hh A (qb (ch G (aR l++aR [c])) fun g d=>by simp[ch,d]) o (aR l++aR [c]) [] [q] [c] [u] qe ⟨qp,trivial⟩ (pre:=aR l) (seen:=qq) (by simp) (fun id len n=>x id len (by simpa using n)) (by rw[fU];exact R) W Q;rw[qt]at ql;refine⟨ch G (aR l++aR [c]),fun g L d=>?_,ql,?_⟩
       .unfold ch at d;split at d
        .rename_i id hid;exact I g _ hid
        .cases d
       .rcases A with rfl|rfl<;>exact O
      .cases j
     .cases j
    .cases j
   .cases j
  .cases j
 |box =>
  dsimp only at j;generalize qf:st.sp=qu at j;split at j
  .rename_i b q;have qg:=qf;split at j
   .rename_i c M;split at j
    .rename_i z;simp only[aA]at z;obtain⟨⟨⟨X,E⟩,T⟩,W⟩:=z;split at j
     .rename_i D qe s Q;cases j;obtain⟨cs,e,K,bm,hrel⟩:=o.bx b c M;have qh:G.hb b=g0:=by
       have R:=o.sp;rw[qg,qa,qi (.inl rfl)]at R;have x:Value.pointer (some ⟨g0,0,none⟩)=.pointer (some ⟨G.hb b,0,none⟩):=R.2;injection x with x
       injection x with x
       injection x with x
       exact x.symm
      subst qh;have H:∀g,G.own g=none->g≠G.hb b:=by rintro g d rfl;rw[bm]at d;cases d
      by_cases n:m<=1
      ·
       refine⟨fun g=>if g=G.hb b then some (nOf rs) else none,fun g L d=>?_,⟨⟨nOf rs,by simp,bf _⟩,cs,e,K,?_⟩,?_⟩
       .dsimp only at d;split at d
        .rename_i F;exact F▸I _ _ bm
        .cases d
       .refine al7 o hrel X Q fun f e t xs n g d=>⟨by simp[H g d.1],d.2.imp_right fun h=>h.2⟩
       .have A:m=0\/m=1:=by omega
        have Y:∀g id,G.own g=some (.bl id)->g≠G.hb b:=by rintro g id d rfl;rw[bm]at d;cases d
        rcases A with rfl|rfl
        .exact ae1 o B E s (fun f g _ d=>⟨by simp[H g d.1],d.2.imp_right fun h=>h.2⟩) (fun g id d=>⟨by simp[Y g id d],.inl (o.Uc d)⟩) (.inl rfl)
        .exact ae1 o B E s (fun f g S d=>⟨by simp[H g d.1],d.2.elim (fun h=>h) fun h=>by rw[S (by simp)]at h;cases h.1⟩) (fun g id d=>⟨by simp[Y g id d],o.Uc d⟩) (.inr rfl)
      .have A:m=2\/m=3:=by have:=Fs W;omega
       have qv:w3 st rs l=true:=by rcases A with rfl|rfl<;>exact T
       have O:=(Hh A (okE:=fun g=>G.own g=none/\(G.nw g\/(m2 m=false/\G.ok g))) (fun g d=>⟨d.1,d.2⟩) o (aR l) [] rs l us D B (pre:=[]) (seen:=[]) (by simp) (fun id len n=>by simp at n) (by rw[fU];exact E) qv s).1;have Z:∀g,G.own g=none->(if g=G.hb b then some (nOf rs) else ch G (aR l) g)=none:=by intro g d;rw[af (H g d)];simp[ch,d]
       refine⟨fun g=>if g=G.hb b then some (nOf rs) else ch G (aR l) g,fun g L d=>?_,⟨⟨nOf rs,by simp,bf _⟩,cs,e,K,?_⟩,?_⟩
       .dsimp only at d;split at d
        .rename_i F;exact F▸I _ _ bm
        .unfold ch at d;split at d
         .rename_i id hid;exact I g _ hid
         .cases d
       .refine al7 o hrel X Q fun f e t xs n g d=>⟨Z g d.1,d.2.imp_right fun h=>h.2⟩
       .have qw:=oI.awm (bN:=fun g=>if g=G.hb b then some (nOf rs) else ch G (aR l) g) (alR:=fun g=>(if g=G.hb b then some (nOf rs) else ch G (aR l) g)=none/\(G.nw g\/(m2 m=false/\G.ok g))) (fun g L d=>by
         have:g≠G.hb b:=by rintro rfl;simp[ch,bm]at d
         simp[this,d]) (fun g d=>⟨Z g d.1,d.2⟩) O
        rcases A with rfl|rfl<;>exact qw
     .cases j
    .cases j
   .cases j
  .cases j
 |cur =>
  dsimp only at j;generalize qf:st.sp=qu at j;split at j
  .rename_i b q;have qg:=qf;split at j
   .rename_i c M;split at j
    .rename_i z;simp only[aA]at z;obtain⟨⟨⟨⟨X,qx⟩,E⟩,T⟩,W⟩:=z;split at j
     .rename_i D qe s Q;cases j;obtain⟨cs,e,K,bm,hrel⟩:=o.bx b c M;have qh:G.hb b=g0:=by
       have R:=o.sp;rw[qg,qa,qi (.inr rfl)]at R;have x:Value.pointer (some ⟨g0,0,none⟩)=.pointer (some ⟨G.hb b,0,none⟩):=R.2;injection x with x
       injection x with x
       injection x with x
       exact x.symm
      subst qh;have H:∀g,G.own g=none->g≠G.hb b:=by rintro g d rfl;rw[bm]at d;cases d
      have qm:∀f e t xs,AC.ro f e t xs∈c->f=true:=fun f e t xs n=>Ol qx f e t xs n
      by_cases n:m<=1
      .refine⟨fun g=>if g=G.hb b then some (nOf rs) else none,fun g L d=>?_,⟨⟨nOf rs,by simp,bf _⟩,cs,e,K,?_⟩,?_⟩
       .dsimp only at d;split at d
        .rename_i F;exact F▸I _ _ bm
        .cases d
       .refine al7 o hrel X Q fun f e t xs n g d=>⟨by simp[H g d.1],d.2.elim (fun h=>h) fun h=>by rw[qm f e t xs n]at h;cases h.1⟩
       .have A:m=0\/m=1:=by omega
        have Y:∀g id,G.own g=some (.bl id)->g≠G.hb b:=by rintro g id d rfl;rw[bm]at d;cases d
        rcases A with rfl|rfl
        .exact ae1 o B E s (fun f g _ d=>⟨by simp[H g d.1],d.2.imp_right fun h=>h.2⟩) (fun g id d=>⟨by simp[Y g id d],.inl (o.Uc d)⟩) (.inl rfl)
        .exact ae1 o B E s (fun f g S d=>⟨by simp[H g d.1],d.2.elim (fun h=>h) fun h=>by rw[S (by simp)]at h;cases h.1⟩) (fun g id d=>⟨by simp[Y g id d],o.Uc d⟩) (.inr rfl)
      .have A:m=2:=by have:=Fs W;omega
       subst A;have O:=(Hh (.inl rfl) (okE:=fun g=>G.own g=none/\(G.nw g\/(m2 2=false/\G.ok g))) (fun g d=>⟨d.1,d.2⟩) o (aR l) [] rs l us D B (pre:=[]) (seen:=[]) (by simp) (fun id len n=>by simp at n) (by rw[fU];exact E) T s).1;have Z:∀g,G.own g=none->(if g=G.hb b then some (nOf rs) else ch G (aR l) g)=none:=by intro g d;rw[af (H g d)];simp[ch,d]
       refine⟨fun g=>if g=G.hb b then some (nOf rs) else ch G (aR l) g,fun g L d=>?_,⟨⟨nOf rs,by simp,bf _⟩,cs,e,K,?_⟩,?_⟩
       .dsimp only at d;split at d
        .rename_i F;exact F▸I _ _ bm
        .unfold ch at d;split at d
         .rename_i id hid;exact I g _ hid
         .cases d
       .refine al7 o hrel X Q fun f e t xs n g d=>⟨Z g d.1,d.2.elim (fun h=>h) fun h=>by rw[qm f e t xs n]at h;cases h.1⟩
       .exact oI.awm (bN:=fun g=>if g=G.hb b then some (nOf rs) else ch G (aR l) g) (alR:=fun g=>(if g=G.hb b then some (nOf rs) else ch G (aR l) g)=none/\(G.nw g\/(m2 2=false/\G.ok g))) (fun g L d=>by
         have:g≠G.hb b:=by rintro rfl;simp[ch,bm]at d
         simp[this,d]) (fun g d=>⟨Z g d.1,d.2⟩) O
     .cases j
    .cases j
   .cases j
  .cases j
def Yp {T : Tab} (qd : ∀ f con, C f = some con → sJ P T f con) {f : FuncId} {m : Func} {con : Og} (z : P.funcs[f]? = some m) (qe : (m.name == "runtime.NumGoroutine") = false) (E : m.body.isNone = false) (qf : aCq con)
  (H:Nat->Option Hint) (qg:∀x r,con.g x=some r->∃N,aAI P C (oH.Ll N) H m con.ps con.i con.pm con.rs con.qs con.m x=some r):alO P T f con:=by
 refine⟨⟨m,z,qe,E⟩,qf,fun x r M w qh ok nw own I q u F Q=>?_⟩;obtain⟨N,K⟩:=qg x r M;obtain⟨S,K⟩:=aU K;simp only[aA]at S;obtain⟨⟨⟨qi,qj⟩,qk⟩,qG⟩:=S;obtain⟨c,W⟩:∃c,m.body=some c:=by
  cases h:m.body with
  |none=>rw[h]at E;cases E|some c=>exact⟨c,rfl⟩
 have ql:gX m=c:=by simp[gX,W]
 rw[ql]at K;obtain⟨L,B,qm,qn,qo,hrel,qp,qq⟩:=aam F con.i con.ps x q qk Q;have hlen:q.length=con.ps.length:=by rw[<-atN (pm:=con.pm) con.i con.ps x (gq qj)];exact hrel.len.symm
 have X:∀g,(∃k,(XH ok nw own L B).own g=some k)->∃j,own g=some j:=by
  rintro g ⟨k,n⟩;simp only[XH]at n;cases qt:own g with
  |none=>rw[qt]at n;cases n|some j=>exact⟨j,rfl⟩
 have qu:∀g,(∃k,(XH ok nw own L B).own g=some k)->nw g:=by intro g M;obtain⟨j,s⟩:=X g M;exact(F.bm g j s).1
 let R:eH:={w:=w,ok:=ok,nw:=nw,fr:=fun g=>∃k,(XH ok nw own L B).own g=some k,hnw:=F.k7,pv:=u,hfr:=qu}
 have O:∀g,R.fr g->∃j,own g=some j:=X;have qv:Inv R (XH ok nw own L B) (aeQ m.ntmps con.pm con.i con.ps x) {tmps:=q.toArray++Array.replicate (m.ntmps-q.toArray.size) undef,defers:=[]} w:=by unfold aeQ;rw[qn,qo];refine arL (R:=R) F rfl rfl rfl rfl (fun g k n=>Exists.intro k n) qm rfl ?_ qp (fun t v qw=>aza hrel qw);have:=Fs qi;simp[hlen];omega
 refine calls_of_wp z W (rf (w0:=R) (fun f con z=>(qd f con z).at qh fun b E=>by obtain⟨j,s⟩:=O b E;exact(F.bm b j s).2.2) H c (qv.ayP (aro H)) K fun e qx cy qy A d y=>?_)
 have post:∀e,e=Exit.normal\/e=Exit.ret->(match QI P cy m.results.toList with
   |some l=>apW cy con.pm con.rs con.qs con.m l|none=>none)=some r->bodyPost P m (fun e A=>∃us,e=.returned (eZ us)/\alN con w A ok nw own I u r us/\eG (fun g=>(own g).isSome=true) w A) e qy A:=by
  intro e qz y;split at y
  .rename_i l qA;obtain⟨us,qB,Y⟩:=Uu (P:=P) d qA;have qC:∀g k,qx.own g=some k->w.heap.size<=g\/(own g).isSome=true:=by
    intro g k n;rcases(d.own g k n).1 with h1|h1
    .exact .inl h1
    .obtain⟨j,s⟩:=O g h1;exact .inr (by rw[s];rfl)
   have Z:∃qa,Ending.returned (eZ us)=.returned (eZ qa)/\alN con w A ok nw own I u r qa/\eG (fun g=>(own g).isSome=true) w A:=by
    refine⟨us,rfl,Ux d d.nw d.rok rfl qC (fun D g k n=>?_) (fun D=>?_) qB y,?_⟩
    .rcases(d.own g k n).1 with h1|h1
     .exact h1
     .obtain⟨qH,hk'⟩:=h1;obtain⟨qD,qE⟩:=qq D;subst qD;subst qE;simp only[XH,CL,NO]at hk';split at hk'<;>cases hk'
    .have:∀(i:Nat) (o:List (Ty×Bool)) (x:Args o) (q:List Value),Ui w ok nw own I con.pm i o x q u->u=.pointer (some ⟨I,0,none⟩):=by
      intro i
      induction i with
      |zero =>
       intro o x q h;cases o with
       |nil=>exact h.elim
       |cons p o =>
        obtain⟨qb,_,h1,_⟩:=h;rcases D with D|D<;>rw[D]at h1<;>exact h1.1
      |succ i qF =>
       intro o x q h;cases o with
       |nil=>exact h.elim
       |cons p o =>
        obtain⟨v,qb,_,_,h1⟩:=h;exact qF o x.2 qb h1
     exact this _ _ _ _ Q
    .exact⟨d.below.os,d.below.tape,d.below.output,d.below.size,fun k n z=>d.below.block k n fun hfr=>z (by obtain⟨j,s⟩:=O k hfr;rw[s];rfl)⟩
   rcases qz with rfl|rfl
   .exact bodyPost_end Y d.defers Z
   .exact bodyPost_ret Y d.defers Z
  .cases y
 cases e with
 |norm=>exact post .normal (.inl rfl) y|ret=>exact post .ret (.inr rfl) y|exit j=>cases y
def aGn {a b:Ty×Bool}{i f:CV}{g:Args [a,b]×Args []}{n:Args [b]}(h:apW st (.own true) [a,b] [] 2 [i,f]=some g)(d:BF st [b] [f]=some n):g.1.2.1=n.1:=by
 simp only[apW,Nat.beq,T3]at h;split at h
 .split at h
  .rename_i r c;cases h;simp only[BF]at c d;split at c
   .split at c
    .rename_i y e;split at e
     .rename_i z j;rw[j]at d;cases d;cases e;cases c;rfl
     .cases e
    .cases c
   .cases c
  .cases h
 .cases h
def aGo {b q:Ty×Bool}{c:CV}{d:Args [b]×Args [q]}{n:Args [b]}(h:apW st (.own true) [b] [q] 2 [c]=some d)(f:BF st [b] [c]=some n):d.1.1=n.1:=by
 simp only[apW,Nat.beq,T3]at h;split at h
 .split at h
  .split at h
   .rename_i r y e g;cases h;rw[f]at e;cases e;rfl
   .cases h
  .cases h
 .cases h
def ap7 {T : Tab} (qh : ∀ f con, C f = some con → sJ P T f con) {f : FuncId} {o : Func} {con : Sel} (D : P.funcs[f]? = some o) (M : (o.name == "runtime.NumGoroutine") = false) (p : o.body.isNone = false) (qi : mA con.ps con.i = some con.q)
  (H:Nat->Option Hint) (qj:∀x r,con.g x=some r->∃N,apX P C (oH.Ll N) H o con.ps con.i con.a con.b con.q x=some r):alP P T f con:=by
 refine⟨⟨o,D,M,p⟩,qi,fun x r W w qk ok nw own g0 E u I ql=>?_⟩;obtain⟨N,O⟩:=qj x r W;obtain⟨Z,O⟩:=aU O;simp only[aA]at Z;obtain⟨⟨⟨qm,qn⟩,qo⟩,qG⟩:=Z;obtain⟨c,qa⟩:∃c,o.body=some c:=by
  cases h:o.body with
  |none=>rw[h]at p;cases p|some c=>exact⟨c,rfl⟩
 have qp:gX o=c:=by simp[gX,qa]
 rw[qp]at O;obtain⟨L,B,qq,qt,qu,hrel,qv,qH⟩:=aam I con.i con.ps x E qo ql;have hlen:E.length=con.ps.length:=by rw[<-atN (pm:=(.own true)) con.i con.ps x (gq qn)];exact hrel.len.symm
 have qb:∀g,(∃k,(XH ok nw own L B).own g=some k)->∃m,own g=some m:=by
  rintro g ⟨k,q⟩;simp only[XH]at q;cases qw:own g with
  |none=>rw[qw]at q;cases q|some m=>exact⟨m,rfl⟩
 have qx:∀g,(∃k,(XH ok nw own L B).own g=some k)->nw g:=by intro g W;obtain⟨m,y⟩:=qb g W;exact(I.bm g m y).1
 let R:eH:={w:=w,ok:=ok,nw:=nw,fr:=fun g=>∃k,(XH ok nw own L B).own g=some k,hnw:=I.k7,pv:=u,hfr:=qx}
 have X:∀g,R.fr g->∃m,own g=some m:=qb;have qy:Inv R (XH ok nw own L B) (aeQ o.ntmps (.own true) con.i con.ps x) {tmps:=E.toArray++Array.replicate (o.ntmps-E.toArray.size) undef,defers:=[]} w:=by unfold aeQ;rw[qt,qu];refine arL (R:=R) I rfl rfl rfl rfl (fun g k q=>Exists.intro k q) qq rfl ?_ qv (fun t v qz=>aza hrel qz);have:=Fs qm;simp[hlen];omega
 refine calls_of_wp D qa (rf (w0:=R) (fun f con D=>(qh f con D).at qk fun b p=>by obtain⟨m,y⟩:=X b p;exact(I.bm b m y).2.2) H c (qy.ayP (aro H)) O fun e qA cy qB F i d=>?_)
 have post:∀e,e=Exit.normal\/e=Exit.ret->ayO P o con.a con.b con.q Ex.norm cy=some r->bodyPost P o (fun e F=>∃us,e=.returned (eZ us)/\aGf con w F ok nw own g0 u r us/\eG (fun g=>(own g).isSome=true) w F) e qB F:=by
  intro e qC d;simp only[ayO]at d;split at d
  .rename_i qI qD qE;obtain⟨us,Q,qd⟩:=Uu (P:=P) i qE;obtain⟨z,s,rfl⟩:∃z s,us=[z,s]:=by
    match us,Q with
    |[z,s],_=>exact⟨z,s,rfl⟩|[],h=>exact h.elim|[_],h=>exact h.2.elim|_::_::_::_,h=>exact h.2.2.elim
   have qe:∀g k,qA.own g=some k->w.heap.size<=g\/(own g).isSome=true:=by
    intro g k q;rcases(i.own g k q).1 with h1|h1
    .exact .inl h1
    .obtain⟨m,y⟩:=X g h1;exact .inr (by rw[y];rfl)
   have qf:∃qg,Ending.returned (eZ [z,s])=.returned (eZ qg)/\aGf con w F ok nw own g0 u r qg/\eG (fun g=>(own g).isSome=true) w F:=by
    refine⟨[z,s],rfl,⟨z,s,rfl,?_⟩,?_⟩
    .split at d
     .rename_i n M;cases S:alq con.b.1 n.1 with
      |true =>
       rw[S]at d;simp only[br]at d;split at d
       .rename_i Y K;cases d;have p:Y.1.2.1=n.1:=aGn K M;dsimp only;rw[p,S];have:=Ux (con:=aH2 con) i i.nw i.rok (g0:=g0) rfl qe (fun j=>by cases j) (fun j=>by rcases j with j|j<;>cases j) Q K;rw[<-p];exact this
       .cases d
      |false =>
       rw[S]at d;simp only[br]at d;obtain⟨A,d⟩:=aU d;split at d
       .rename_i Y K;cases d;have p:Y.1.1=n.1:=aGo K M;dsimp only;rw[p,S];have:=Ux (con:=aI7 con) i i.nw i.rok (g0:=g0) rfl qe (fun j=>by cases j) (fun j=>by rcases j with j|j<;>cases j) (l:=[qD]) (us:=[s]) ⟨Q.2.1,trivial⟩ K;rw[<-p];refine⟨this,fun qF=>?_⟩;unfold aHB at A;rw[qF]at A;split at A
        .rename_i l;obtain⟨E,rfl,hrel⟩:=Q.1;rw[aA]at A;exact⟨E,rfl,by rw[<-hrel.len,aJ A.1],akN hrel (abR A.2)⟩
        .cases A
        .contradiction
       .cases d
     .cases d
    .exact⟨i.below.os,i.below.tape,i.below.output,i.below.size,fun k q D=>i.below.block k q fun hfr=>D (by obtain⟨m,y⟩:=X k hfr;rw[y];rfl)⟩
   rcases qC with rfl|rfl
   .exact bodyPost_end qd i.defers qf
   .exact bodyPost_ret qd i.defers qf
  .cases d
 cases e with
 |norm=>exact post .normal (.inl rfl) d|ret=>exact post .ret (.inr rfl) d|exit m=>cases d
end
end Go.Am
